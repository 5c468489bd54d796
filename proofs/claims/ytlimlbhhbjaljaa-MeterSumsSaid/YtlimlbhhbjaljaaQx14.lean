-- written by this session's own program (wip/tools/myprint.py), over the kit's print
import Derived.Test.YtlimlbhhbjaljaaQx0
import Derived.Test.YtlimlbhhbjaljaaQx1
import Derived.Test.YtlimlbhhbjaljaaQx3
import Derived.Test.YtlimlbhhbjaljaaQx4
namespace Go.Proofs.Ytlimlbhhbjaljaa.Q
open Go.RowKit Go.Proofs.YtlimlbhhbjaljaaW.PrintWords Go.Proofs.YtlimlbhhbjaljaaW.PrintLast Go.Proofs.YtlimlbhhbjaljaaW.PrintMore
open Go.Proofs.YtlimlbhhbjaljaaV
attribute [local go_sem] max2_int min2_int max_two min_two max_three min_three max_four min_four   -- for this text's walks alone
set_option linter.unusedVariables false
set_option linter.unusedSimpArgs false

attribute [local go_sem high] eqA24
/-! ### portreevelaw17_MeterSums: function 6 -/
def portreevelaw17_MeterSums.f (k : Nat) (a0_0 : Int) (a0_1 : Int) (a0_2 : Int) (a0_3 : Int) (a0_4 : Int) (a0_5 : Int) (a0_6 : Int) : Option (Bool) := (portreevelaw17_shown.f k).bind fun t390 => ((portreeveref17_Right.f a0_0 a0_1 a0_2).bind fun t391 => (if t391 = true then ((meter_Count.f a0_0 a0_1 a0_2 (wrap64 (a0_3)) (wrap64 (a0_4))).bind fun bt392 => ((meter_Count.f bt392.1 bt392.2.1 bt392.2.2 (wrap64 (a0_5)) (wrap64 (a0_6))).bind fun bt395 => ((meter_Count.f a0_0 a0_1 a0_2 (wrap64 ((wrap64 (a0_3)) + (wrap64 (a0_5)))) (wrap64 ((wrap64 (a0_4)) + (wrap64 (a0_6))))).bind fun bt399 => (if t390 = true then (if (bt395.1 == bt399.1 && (bt395.2.1 == bt399.2.1 && (bt395.2.2 == bt399.2.2))) = true then ((meter_Count.f a0_0 a0_1 a0_2 0 0).bind fun bt403 => (if (bt403.1 == a0_0 && (bt403.2.1 == a0_1 && (bt403.2.2 == a0_2))) = true then ((meter_Count.f a0_0 a0_1 a0_2 (-1) (-5)).bind fun bt406 => (some (bt406.1 == a0_0 && (bt406.2.1 == a0_1 && (bt406.2.2 == a0_2))))) else (some false))) else (some false)) else (some false))))) else (some t390)))
theorem portreevelaw17_MeterSums.mono : ∀ a0 a1 a2 a3 a4 a5 a6 k, LeO (portreevelaw17_MeterSums.f k a0 a1 a2 a3 a4 a5 a6) (portreevelaw17_MeterSums.f (k + 1) a0 a1 a2 a3 a4 a5 a6) := by
  intro a0 a1 a2 a3 a4 a5 a6 k
  unfold portreevelaw17_MeterSums.f
  repeat' first
      | (with_reducible exact portreevelaw17_shown.mono _)
      | (with_reducible exact LeO.refl _)
      | (with_reducible exact LeO.none _)
      | (with_reducible refine LeO.ite ?_ ?_)
      | (with_reducible refine LeO.bind ?_ (fun _ => ?_))
      | exact portreevelaw17_shown.mono _
      | exact LeO.none _
      | refine LeO.ite ?_ ?_
      | refine LeO.bind ?_ (fun _ => ?_)
def portreevelaw17_MeterSums.T11 : Bool × List (List Nat × List Nat) := (true, [([], []), ([0], [0]), ([1], [1]), ([1], [1]), ([2, 3, 1], [1, 2, 3]), ([1, 4], [1, 4]), ([5, 1], [5]), ([6], [6]), ([7, 6, 6], [6, 7]), ([6], [6]), ([8, 9, 6], [6, 8, 9]), ([6, 10], [6, 10]), ([11, 8], [11]), ([12], [12]), ([13, 12, 12], [12, 13]), ([12], [12]), ([14, 15, 12], [12, 14, 15]), ([12, 16], [12, 16]), ([17, 14, 0, 1, 2, 3, 4, 5, 6, 7, 8, 9, 10, 11, 12, 13, 14, 15, 16, 17], [17])])
def portreevelaw17_MeterSums.B11 : List Nat := [0, 1, 3, 3, 15, 31, 63, 127, 255, 127, 1023, 2047, 4095, 8191, 16383, 8191, 65535, 131071, 262143]
theorem portreevelaw17_MeterSums.tab11 : rtab .any (opsOf Try.f6 11) = portreevelaw17_MeterSums.T11 := by kernel_rfl
theorem portreevelaw17_MeterSums.bits11 : waitsOk portreevelaw17_MeterSums.T11.2 portreevelaw17_MeterSums.B11 = true := by kernel_rfl
set_option maxHeartbeats 8000000 in
set_option maxRecDepth 100000 in
theorem portreevelaw17_MeterSums.calls (k : Nat) (a0_0 : Int) (a0_1 : Int) (a0_2 : Int) (a0_3 : Int) (a0_4 : Int) (a0_5 : Int) (a0_6 : Int) (r : Bool) (w : World) (hlaw_ : Aside0 (r = true)) (h : portreevelaw17_MeterSums.f k a0_0 a0_1 a0_2 a0_3 a0_4 a0_5 a0_6 = some r) :
    Calls Try.prog 6 #[.agg #[.int .u64 a0_0, .int .u64 a0_1, .int .i64 a0_2, .int .u32 a0_3, .int .u32 a0_4, .int .u32 a0_5, .int .u32 a0_6]] w fun e w' => e = .returned (.bool r) ∧ Below w.heap.size w w' := by
  have hu59 := Try.underlying59
  have hu24 := Try.underlying24
  have HB := Aside0.mk (Below.refl w.heap.size w)
  have H : ((portreevelaw17_shown.f k).bind fun t390 => ((portreeveref17_Right.f a0_0 a0_1 a0_2).bind fun t391 => (if t391 = true then ((meter_Count.f a0_0 a0_1 a0_2 (wrap64 (a0_3)) (wrap64 (a0_4))).bind fun bt392 => ((meter_Count.f bt392.1 bt392.2.1 bt392.2.2 (wrap64 (a0_5)) (wrap64 (a0_6))).bind fun bt395 => ((meter_Count.f a0_0 a0_1 a0_2 (wrap64 ((wrap64 (a0_3)) + (wrap64 (a0_5)))) (wrap64 ((wrap64 (a0_4)) + (wrap64 (a0_6))))).bind fun bt399 => (if t390 = true then (if (bt395.1 == bt399.1 && (bt395.2.1 == bt399.2.1 && (bt395.2.2 == bt399.2.2))) = true then ((meter_Count.f a0_0 a0_1 a0_2 0 0).bind fun bt403 => (if (bt403.1 == a0_0 && (bt403.2.1 == a0_1 && (bt403.2.2 == a0_2))) = true then ((meter_Count.f a0_0 a0_1 a0_2 (-1) (-5)).bind fun bt406 => (some (bt406.1 == a0_0 && (bt406.2.1 == a0_1 && (bt406.2.2 == a0_2))))) else (some false))) else (some false)) else (some false))))) else (some t390)))) = some r := h
  clear h
  replace H := Option.bind_eq_some_iff.mp H
  obtain ⟨t390, A20, H⟩ := H
  replace H : ((portreeveref17_Right.f a0_0 a0_1 a0_2).bind fun t391 => (if t391 = true then ((meter_Count.f a0_0 a0_1 a0_2 (wrap64 (a0_3)) (wrap64 (a0_4))).bind fun bt392 => ((meter_Count.f bt392.1 bt392.2.1 bt392.2.2 (wrap64 (a0_5)) (wrap64 (a0_6))).bind fun bt395 => ((meter_Count.f a0_0 a0_1 a0_2 (wrap64 ((wrap64 (a0_3)) + (wrap64 (a0_5)))) (wrap64 ((wrap64 (a0_4)) + (wrap64 (a0_6))))).bind fun bt399 => (if t390 = true then (if (bt395.1 == bt399.1 && (bt395.2.1 == bt399.2.1 && (bt395.2.2 == bt399.2.2))) = true then ((meter_Count.f a0_0 a0_1 a0_2 0 0).bind fun bt403 => (if (bt403.1 == a0_0 && (bt403.2.1 == a0_1 && (bt403.2.2 == a0_2))) = true then ((meter_Count.f a0_0 a0_1 a0_2 (-1) (-5)).bind fun bt406 => (some (bt406.1 == a0_0 && (bt406.2.1 == a0_1 && (bt406.2.2 == a0_2))))) else (some false))) else (some false)) else (some false))))) else (some t390))) = some r := H
  have A2 := Aside0.mk A20
  clear A20
  replace H := Option.bind_eq_some_iff.mp H
  obtain ⟨t391, A30, H⟩ := H
  replace H : (if t391 = true then ((meter_Count.f a0_0 a0_1 a0_2 (wrap64 (a0_3)) (wrap64 (a0_4))).bind fun bt392 => ((meter_Count.f bt392.1 bt392.2.1 bt392.2.2 (wrap64 (a0_5)) (wrap64 (a0_6))).bind fun bt395 => ((meter_Count.f a0_0 a0_1 a0_2 (wrap64 ((wrap64 (a0_3)) + (wrap64 (a0_5)))) (wrap64 ((wrap64 (a0_4)) + (wrap64 (a0_6))))).bind fun bt399 => (if t390 = true then (if (bt395.1 == bt399.1 && (bt395.2.1 == bt399.2.1 && (bt395.2.2 == bt399.2.2))) = true then ((meter_Count.f a0_0 a0_1 a0_2 0 0).bind fun bt403 => (if (bt403.1 == a0_0 && (bt403.2.1 == a0_1 && (bt403.2.2 == a0_2))) = true then ((meter_Count.f a0_0 a0_1 a0_2 (-1) (-5)).bind fun bt406 => (some (bt406.1 == a0_0 && (bt406.2.1 == a0_1 && (bt406.2.2 == a0_2))))) else (some false))) else (some false)) else (some false))))) else (some t390)) = some r := H
  have A3 := Aside0.mk A30
  clear A30
  by_cases c4 : t391 = true
  · subst c4
    have H1 : ((meter_Count.f a0_0 a0_1 a0_2 (wrap64 (a0_3)) (wrap64 (a0_4))).bind fun bt392 => ((meter_Count.f bt392.1 bt392.2.1 bt392.2.2 (wrap64 (a0_5)) (wrap64 (a0_6))).bind fun bt395 => ((meter_Count.f a0_0 a0_1 a0_2 (wrap64 ((wrap64 (a0_3)) + (wrap64 (a0_5)))) (wrap64 ((wrap64 (a0_4)) + (wrap64 (a0_6))))).bind fun bt399 => (if t390 = true then (if (bt395.1 == bt399.1 && (bt395.2.1 == bt399.2.1 && (bt395.2.2 == bt399.2.2))) = true then ((meter_Count.f a0_0 a0_1 a0_2 0 0).bind fun bt403 => (if (bt403.1 == a0_0 && (bt403.2.1 == a0_1 && (bt403.2.2 == a0_2))) = true then ((meter_Count.f a0_0 a0_1 a0_2 (-1) (-5)).bind fun bt406 => (some (bt406.1 == a0_0 && (bt406.2.1 == a0_1 && (bt406.2.2 == a0_2))))) else (some false))) else (some false)) else (some false))))) = some r := by rw [if_pos rfl] at H; exact H
    clear H
    have H := H1
    clear H1
    replace H := Option.bind_eq_some_iff.mp H
    obtain ⟨⟨t392, t393, t394⟩, A50, H⟩ := H
    replace H : ((meter_Count.f t392 t393 t394 (wrap64 (a0_5)) (wrap64 (a0_6))).bind fun bt395 => ((meter_Count.f a0_0 a0_1 a0_2 (wrap64 ((wrap64 (a0_3)) + (wrap64 (a0_5)))) (wrap64 ((wrap64 (a0_4)) + (wrap64 (a0_6))))).bind fun bt399 => (if t390 = true then (if (bt395.1 == bt399.1 && (bt395.2.1 == bt399.2.1 && (bt395.2.2 == bt399.2.2))) = true then ((meter_Count.f a0_0 a0_1 a0_2 0 0).bind fun bt403 => (if (bt403.1 == a0_0 && (bt403.2.1 == a0_1 && (bt403.2.2 == a0_2))) = true then ((meter_Count.f a0_0 a0_1 a0_2 (-1) (-5)).bind fun bt406 => (some (bt406.1 == a0_0 && (bt406.2.1 == a0_1 && (bt406.2.2 == a0_2))))) else (some false))) else (some false)) else (some false)))) = some r := H
    have A5 := Aside0.mk A50
    clear A50
    replace H := Option.bind_eq_some_iff.mp H
    obtain ⟨⟨t395, t396, t397⟩, A60, H⟩ := H
    replace H : ((meter_Count.f a0_0 a0_1 a0_2 (wrap64 ((wrap64 (a0_3)) + (wrap64 (a0_5)))) (wrap64 ((wrap64 (a0_4)) + (wrap64 (a0_6))))).bind fun bt399 => (if t390 = true then (if (t395 == bt399.1 && (t396 == bt399.2.1 && (t397 == bt399.2.2))) = true then ((meter_Count.f a0_0 a0_1 a0_2 0 0).bind fun bt403 => (if (bt403.1 == a0_0 && (bt403.2.1 == a0_1 && (bt403.2.2 == a0_2))) = true then ((meter_Count.f a0_0 a0_1 a0_2 (-1) (-5)).bind fun bt406 => (some (bt406.1 == a0_0 && (bt406.2.1 == a0_1 && (bt406.2.2 == a0_2))))) else (some false))) else (some false)) else (some false))) = some r := H
    have A6 := Aside0.mk A60
    clear A60
    replace H := Option.bind_eq_some_iff.mp H
    obtain ⟨⟨t399, t400, t401⟩, A70, H⟩ := H
    replace H : (if t390 = true then (if (t395 == t399 && (t396 == t400 && (t397 == t401))) = true then ((meter_Count.f a0_0 a0_1 a0_2 0 0).bind fun bt403 => (if (bt403.1 == a0_0 && (bt403.2.1 == a0_1 && (bt403.2.2 == a0_2))) = true then ((meter_Count.f a0_0 a0_1 a0_2 (-1) (-5)).bind fun bt406 => (some (bt406.1 == a0_0 && (bt406.2.1 == a0_1 && (bt406.2.2 == a0_2))))) else (some false))) else (some false)) else (some false)) = some r := H
    have A7 := Aside0.mk A70
    clear A70
    by_cases c8 : t390 = true
    · subst c8
      have H1 : (if (t395 == t399 && (t396 == t400 && (t397 == t401))) = true then ((meter_Count.f a0_0 a0_1 a0_2 0 0).bind fun bt403 => (if (bt403.1 == a0_0 && (bt403.2.1 == a0_1 && (bt403.2.2 == a0_2))) = true then ((meter_Count.f a0_0 a0_1 a0_2 (-1) (-5)).bind fun bt406 => (some (bt406.1 == a0_0 && (bt406.2.1 == a0_1 && (bt406.2.2 == a0_2))))) else (some false))) else (some false)) = some r := by rw [if_pos rfl] at H; exact H
      clear H
      have H := H1
      clear H1
      by_cases c9 : (t395 == t399 && (t396 == t400 && (t397 == t401))) = true
      · rw [if_pos c9] at H
        have c9b0 : (t395 == t399 && (t396 == t400 && (t397 == t401))) = true := c9
        (try (have c9b1 : decide (t395 = t399 && (t396 == t400 && (t397 == t401))) = true := by simpa using c9))
        (try (have c9b2 : (t395 == t399 && (t396 == t400 && (t397 == t401))) = true := by simpa using c9))
        clear c9
        replace H := Option.bind_eq_some_iff.mp H
        obtain ⟨⟨t403, t404, t405⟩, A100, H⟩ := H
        replace H : (if (t403 == a0_0 && (t404 == a0_1 && (t405 == a0_2))) = true then ((meter_Count.f a0_0 a0_1 a0_2 (-1) (-5)).bind fun bt406 => (some (bt406.1 == a0_0 && (bt406.2.1 == a0_1 && (bt406.2.2 == a0_2))))) else (some false)) = some r := H
        have A10 := Aside0.mk A100
        clear A100
        by_cases c11 : (t403 == a0_0 && (t404 == a0_1 && (t405 == a0_2))) = true
        · rw [if_pos c11] at H
          have c11b0 : (t403 == a0_0 && (t404 == a0_1 && (t405 == a0_2))) = true := c11
          (try (have c11b1 : decide (t403 = a0_0 && (t404 == a0_1 && (t405 == a0_2))) = true := by simpa using c11))
          (try (have c11b2 : (t403 == a0_0 && (t404 == a0_1 && (t405 == a0_2))) = true := by simpa using c11))
          clear c11
          replace H := Option.bind_eq_some_iff.mp H
          obtain ⟨⟨t406, t407, t408⟩, A120, H⟩ := H
          replace H : (some (t406 == a0_0 && (t407 == a0_1 && (t408 == a0_2)))) = some r := H
          have A12 := Aside0.mk A120
          clear A120
          clear hlaw_
          obtain rfl := Option.some.inj H
          go_enter Try.func6, Try.ntmps6
          try go_wp2_with (first | ((with_reducible refine gate_dst (N := 1) rfl ?_); refine box_event ?hg (N := 1) ?hd (cs := #[.int .u64 a0_0, .int .u64 a0_1, .int .i64 a0_2, .int .u32 a0_3, .int .u32 a0_4, .int .u32 a0_5, .int .u32 a0_6]) (t := 59) ?hr ?_; (case hd => rfl); (case hg => rfl); (case hr => first | (go_simp; done) | (go_simp; rfl)); intro gb388 hg w13 hbox hb; have n0_ := Aside0.mk (below_step (by repeat (first | (with_reducible first | exact HB.out | apply pA | apply pN | apply pD) | exact HB.out)) hb); have n1_ := Aside0.mk (hbox); have n2_ := Aside0.mk ((by rw [hg]; exact (below_size (by repeat (first | (with_reducible first | exact HB.out | apply pA | apply pN | apply pD) | exact HB.out))) : w.heap.size ≤ gb388)); have n3_ := Aside0.mk ((by rw [hg]; exact (below_size (by repeat (first | (with_reducible first | exact HB.out | apply pA | apply pN | apply pD) | exact HB.out))) : w.heap.size ≤ gb388)); clear HB; have HB := n0_; have BK388 := n1_; have GW388 := n2_; have GE388 := n3_; clear n0_ n1_ n2_ n3_; clear hb hbox hg; have hcz14_0 : w13.cell? ⟨gb388, 0, none⟩ = some (.int .u64 a0_0) := (blk_cell BK388.out 0).trans rfl; have hcz14_1 : w13.cell? ⟨gb388, 1, none⟩ = some (.int .u64 a0_1) := (blk_cell BK388.out 1).trans rfl; have hcz14_2 : w13.cell? ⟨gb388, 2, none⟩ = some (.int .i64 a0_2) := (blk_cell BK388.out 2).trans rfl; have hcz14_3 : w13.cell? ⟨gb388, 3, none⟩ = some (.int .u32 a0_3) := (blk_cell BK388.out 3).trans rfl; have hcz14_4 : w13.cell? ⟨gb388, 4, none⟩ = some (.int .u32 a0_4) := (blk_cell BK388.out 4).trans rfl; have hcz14_5 : w13.cell? ⟨gb388, 5, none⟩ = some (.int .u32 a0_5) := (blk_cell BK388.out 5).trans rfl; have hcz14_6 : w13.cell? ⟨gb388, 6, none⟩ = some (.int .u32 a0_6) := (blk_cell BK388.out 6).trans rfl; have hfz14_0 := blk_frozen BK388.out 0; have hfz14_1 := blk_frozen BK388.out 1; have hfz14_2 := blk_frozen BK388.out 2; have hfz14_3 := blk_frozen BK388.out 3; have hfz14_4 := blk_frozen BK388.out 4; have hfz14_5 := blk_frozen BK388.out 5; have hfz14_6 := blk_frozen BK388.out 6) | ((with_reducible refine gate_dst (N := 3) rfl ?_); refine box_event ?hg (N := 3) ?hd (cs := #[.int .u64 0, .int .u64 0, .int .i64 0]) (t := 24) ?hr ?_; (case hd => rfl); (case hg => rfl); (case hr => first | (go_simp; done) | (go_simp; rfl)); intro gb389 hg w15 hbox hb; have n0_ := Aside0.mk (blk_below (g := gb388) (o := .cells #[.int .u64 a0_0, .int .u64 a0_1, .int .i64 a0_2, .int .u32 a0_3, .int .u32 a0_4, .int .u32 a0_5, .int .u32 a0_6] 59 (0, 0)) (by (with_reducible repeat (first | refine qN ?_ _ | refine qD ?_ | refine qA ?_ _)); exact BK388.out) hb); have n1_ := Aside0.mk (below_step (by repeat (first | (with_reducible first | exact HB.out | apply pA | apply pN | apply pD | refine pS ?_ GE388.out) | exact HB.out)) hb); have n2_ := Aside0.mk (hbox); have n3_ := Aside0.mk ((by rw [hg]; exact (below_size (by repeat (first | (with_reducible first | exact HB.out | apply pA | apply pN | apply pD | refine pS ?_ GE388.out) | exact HB.out))) : w.heap.size ≤ gb389)); have n4_ := Aside0.mk ((by rw [hg]; exact (below_size (by repeat (first | (with_reducible first | exact HB.out | apply pA | apply pN | apply pD | refine pS ?_ GE388.out) | exact HB.out))) : w.heap.size ≤ gb389)); have n5_ := Aside0.mk ((by rw [hg]; exact Nat.ne_of_lt (blk_lt (g := gb388) (o := .cells #[.int .u64 a0_0, .int .u64 a0_1, .int .i64 a0_2, .int .u32 a0_3, .int .u32 a0_4, .int .u32 a0_5, .int .u32 a0_6] 59 (0, 0)) (by (with_reducible repeat (first | refine qN ?_ _ | refine qD ?_ | refine qA ?_ _)); exact BK388.out)) : gb388 ≠ gb389)); have n6_ := Aside0.mk ((by rw [hg]; exact Nat.ne_of_gt (blk_lt (g := gb388) (o := .cells #[.int .u64 a0_0, .int .u64 a0_1, .int .i64 a0_2, .int .u32 a0_3, .int .u32 a0_4, .int .u32 a0_5, .int .u32 a0_6] 59 (0, 0)) (by (with_reducible repeat (first | refine qN ?_ _ | refine qD ?_ | refine qA ?_ _)); exact BK388.out)) : gb389 ≠ gb388)); clear BK388; clear HB; have BK388 := n0_; have HB := n1_; have BK389 := n2_; have GW389 := n3_; have GE389 := n4_; have NB388_389 := n5_; have NB389_388 := n6_; clear n0_ n1_ n2_ n3_ n4_ n5_ n6_; clear hb hbox hg; have hnb16 := NB389_388.out; have hnc16 := NB388_389.out; have hcz17_0 : w15.cell? ⟨gb389, 0, none⟩ = some (.int .u64 0) := (blk_cell BK389.out 0).trans rfl; have hcz17_1 : w15.cell? ⟨gb389, 1, none⟩ = some (.int .u64 0) := (blk_cell BK389.out 1).trans rfl; have hcz17_2 : w15.cell? ⟨gb389, 2, none⟩ = some (.int .i64 0) := (blk_cell BK389.out 2).trans rfl; have hfz17_0 := blk_frozen BK389.out 0; have hfz17_1 := blk_frozen BK389.out 1; have hfz17_2 := blk_frozen BK389.out 2; have hcz18_0 : w15.cell? ⟨gb388, 0, none⟩ = some (.int .u64 a0_0) := (blk_cell BK388.out 0).trans rfl; have hcz18_1 : w15.cell? ⟨gb388, 1, none⟩ = some (.int .u64 a0_1) := (blk_cell BK388.out 1).trans rfl; have hcz18_2 : w15.cell? ⟨gb388, 2, none⟩ = some (.int .i64 a0_2) := (blk_cell BK388.out 2).trans rfl; have hcz18_3 : w15.cell? ⟨gb388, 3, none⟩ = some (.int .u32 a0_3) := (blk_cell BK388.out 3).trans rfl; have hcz18_4 : w15.cell? ⟨gb388, 4, none⟩ = some (.int .u32 a0_4) := (blk_cell BK388.out 4).trans rfl; have hcz18_5 : w15.cell? ⟨gb388, 5, none⟩ = some (.int .u32 a0_5) := (blk_cell BK388.out 5).trans rfl; have hcz18_6 : w15.cell? ⟨gb388, 6, none⟩ = some (.int .u32 a0_6) := (blk_cell BK388.out 6).trans rfl; have hfz18_0 := blk_frozen BK388.out 0; have hfz18_1 := blk_frozen BK388.out 1; have hfz18_2 := blk_frozen BK388.out 2; have hfz18_3 := blk_frozen BK388.out 3; have hfz18_4 := blk_frozen BK388.out 4; have hfz18_5 := blk_frozen BK388.out 5; have hfz18_6 := blk_frozen BK388.out 6) | ((with_reducible refine gate_callee (f := 9) rfl ?_); refine goesL_ (some 21) rfl rfl Try.func9 (by kernel_rfl) rfl #[] rfl (by (try simp only [List.map_toArray, List.map_cons, List.map_nil]); first | done | rfl | (simp only [List.length_drop, List.length_take]; rfl)) ?_; (with_reducible refine (portreevelaw17_shown.calls k  true _ A2.out).mono ?_); rintro e w19 ⟨rfl, hb⟩; refine ⟨_, rfl, ?_⟩; have n0_ := Aside0.mk (blk_below (g := gb388) (o := .cells #[.int .u64 a0_0, .int .u64 a0_1, .int .i64 a0_2, .int .u32 a0_3, .int .u32 a0_4, .int .u32 a0_5, .int .u32 a0_6] 59 (0, 0)) (by (with_reducible repeat (first | refine qN ?_ _ | refine qD ?_ | refine qA ?_ _)); refine blk_far ?_ NB388_389.out _; (with_reducible repeat (first | refine qN ?_ _ | refine qD ?_ | refine qA ?_ _)); refine blk_far ?_ NB388_389.out _; (with_reducible repeat (first | refine qN ?_ _ | refine qD ?_ | refine qA ?_ _)); refine blk_far ?_ NB388_389.out _; (with_reducible repeat (first | refine qN ?_ _ | refine qD ?_ | refine qA ?_ _)); exact BK388.out) hb); have n1_ := Aside0.mk (blk_below (g := gb389) (o := .cells #[.int .u64 a0_0, .int .u64 a0_1, .int .i64 a0_2] 24 (0, 0)) (by (with_reducible repeat (first | refine qN ?_ _ | refine qD ?_ | refine qA ?_ _)); refine blk_put (cs := #[.int .u64 a0_0, .int .u64 a0_1, .int .i64 0]) ?_ 2 _ rfl; (with_reducible repeat (first | refine qN ?_ _ | refine qD ?_ | refine qA ?_ _)); refine blk_put (cs := #[.int .u64 a0_0, .int .u64 0, .int .i64 0]) ?_ 1 _ rfl; (with_reducible repeat (first | refine qN ?_ _ | refine qD ?_ | refine qA ?_ _)); refine blk_put (cs := #[.int .u64 0, .int .u64 0, .int .i64 0]) ?_ 0 _ rfl; (with_reducible repeat (first | refine qN ?_ _ | refine qD ?_ | refine qA ?_ _)); exact BK389.out) hb); have n2_ := Aside0.mk (below_step (by repeat (first | (with_reducible first | exact HB.out | apply pA | apply pN | apply pD | refine pS ?_ GE388.out | refine pS ?_ GE389.out) | exact HB.out)) hb); clear BK388; clear BK389; clear HB; have BK388 := n0_; have BK389 := n1_; have HB := n2_; clear n0_ n1_ n2_; (try clear hb); (try clear hb2); (try clear hk); (try clear hi); have hcz20_0 : w19.cell? ⟨gb389, 0, none⟩ = some (.int .u64 a0_0) := (blk_cell BK389.out 0).trans rfl; have hcz20_1 : w19.cell? ⟨gb389, 1, none⟩ = some (.int .u64 a0_1) := (blk_cell BK389.out 1).trans rfl; have hcz20_2 : w19.cell? ⟨gb389, 2, none⟩ = some (.int .i64 a0_2) := (blk_cell BK389.out 2).trans rfl; have hfz20_0 := blk_frozen BK389.out 0; have hfz20_1 := blk_frozen BK389.out 1; have hfz20_2 := blk_frozen BK389.out 2) | ((with_reducible refine gate_callee (f := 10) rfl ?_); refine goesL_ (some 23) rfl rfl Try.func10 (by kernel_rfl) rfl #[.agg #[.int .u64 a0_0, .int .u64 a0_1, .int .i64 a0_2]] rfl (by (try simp only [List.map_toArray, List.map_cons, List.map_nil]); first | done | rfl | (simp only [List.length_drop, List.length_take]; rfl)) ?_; (with_reducible refine (portreeveref17_Right.calls a0_0 a0_1 a0_2 true _ A3.out).mono ?_); rintro e w21 ⟨rfl, hb⟩; refine ⟨_, rfl, ?_⟩; have n0_ := Aside0.mk (blk_below (g := gb388) (o := .cells #[.int .u64 a0_0, .int .u64 a0_1, .int .i64 a0_2, .int .u32 a0_3, .int .u32 a0_4, .int .u32 a0_5, .int .u32 a0_6] 59 (0, 0)) (by (with_reducible repeat (first | refine qN ?_ _ | refine qD ?_ | refine qA ?_ _)); exact BK388.out) hb); have n1_ := Aside0.mk (blk_below (g := gb389) (o := .cells #[.int .u64 a0_0, .int .u64 a0_1, .int .i64 a0_2] 24 (0, 0)) (by (with_reducible repeat (first | refine qN ?_ _ | refine qD ?_ | refine qA ?_ _)); exact BK389.out) hb); have n2_ := Aside0.mk (below_step (by repeat (first | (with_reducible first | exact HB.out | apply pA | apply pN | apply pD | refine pS ?_ GE388.out | refine pS ?_ GE389.out) | exact HB.out)) hb); clear BK388; clear BK389; clear HB; have BK388 := n0_; have BK389 := n1_; have HB := n2_; clear n0_ n1_ n2_; (try clear hb); (try clear hb2); (try clear hk); (try clear hi); have hcz22_0 : w21.cell? ⟨gb389, 0, none⟩ = some (.int .u64 a0_0) := (blk_cell BK389.out 0).trans rfl; have hcz22_1 : w21.cell? ⟨gb389, 1, none⟩ = some (.int .u64 a0_1) := (blk_cell BK389.out 1).trans rfl; have hcz22_2 : w21.cell? ⟨gb389, 2, none⟩ = some (.int .i64 a0_2) := (blk_cell BK389.out 2).trans rfl; have hfz22_0 := blk_frozen BK389.out 0; have hfz22_1 := blk_frozen BK389.out 1; have hfz22_2 := blk_frozen BK389.out 2) | ((with_reducible refine gate_callee (f := 16) rfl ?_); refine goesL_ (some 31) rfl rfl Try.func16 (by kernel_rfl) rfl #[.agg #[.int .u64 a0_0, .int .u64 a0_1, .int .i64 a0_2], .int .i64 (wrap64 (a0_3)), .int .i64 (wrap64 (a0_4))] rfl (by (try simp only [List.map_toArray, List.map_cons, List.map_nil]); first | done | rfl | (simp only [List.length_drop, List.length_take]; rfl)) ?_; (with_reducible refine (meter_Count.calls a0_0 a0_1 a0_2 (wrap64 (a0_3)) (wrap64 (a0_4)) t392 t393 t394 _ A5.out).mono ?_); rintro e w23 ⟨rfl, hb⟩; refine ⟨_, rfl, ?_⟩; have n0_ := Aside0.mk (blk_below (g := gb388) (o := .cells #[.int .u64 a0_0, .int .u64 a0_1, .int .i64 a0_2, .int .u32 a0_3, .int .u32 a0_4, .int .u32 a0_5, .int .u32 a0_6] 59 (0, 0)) (by (with_reducible repeat (first | refine qN ?_ _ | refine qD ?_ | refine qA ?_ _)); exact BK388.out) hb); have n1_ := Aside0.mk (blk_below (g := gb389) (o := .cells #[.int .u64 a0_0, .int .u64 a0_1, .int .i64 a0_2] 24 (0, 0)) (by (with_reducible repeat (first | refine qN ?_ _ | refine qD ?_ | refine qA ?_ _)); exact BK389.out) hb); have n2_ := Aside0.mk (below_step (by repeat (first | (with_reducible first | exact HB.out | apply pA | apply pN | apply pD | refine pS ?_ GE388.out | refine pS ?_ GE389.out) | exact HB.out)) hb); clear BK388; clear BK389; clear HB; have BK388 := n0_; have BK389 := n1_; have HB := n2_; clear n0_ n1_ n2_; (try clear hb); (try clear hb2); (try clear hk); (try clear hi)) | ((with_reducible refine gate_callee (f := 16) rfl ?_); refine goesL_ (some 36) rfl rfl Try.func16 (by kernel_rfl) rfl #[.agg #[.int .u64 t392, .int .u64 t393, .int .i64 t394], .int .i64 (wrap64 (a0_5)), .int .i64 (wrap64 (a0_6))] rfl (by (try simp only [List.map_toArray, List.map_cons, List.map_nil]); first | done | rfl | (simp only [List.length_drop, List.length_take]; rfl)) ?_; (with_reducible refine (meter_Count.calls t392 t393 t394 (wrap64 (a0_5)) (wrap64 (a0_6)) t395 t396 t397 _ A6.out).mono ?_); rintro e w24 ⟨rfl, hb⟩; refine ⟨_, rfl, ?_⟩; have n0_ := Aside0.mk (blk_below (g := gb388) (o := .cells #[.int .u64 a0_0, .int .u64 a0_1, .int .i64 a0_2, .int .u32 a0_3, .int .u32 a0_4, .int .u32 a0_5, .int .u32 a0_6] 59 (0, 0)) (by (with_reducible repeat (first | refine qN ?_ _ | refine qD ?_ | refine qA ?_ _)); exact BK388.out) hb); have n1_ := Aside0.mk (blk_below (g := gb389) (o := .cells #[.int .u64 a0_0, .int .u64 a0_1, .int .i64 a0_2] 24 (0, 0)) (by (with_reducible repeat (first | refine qN ?_ _ | refine qD ?_ | refine qA ?_ _)); exact BK389.out) hb); have n2_ := Aside0.mk (below_step (by repeat (first | (with_reducible first | exact HB.out | apply pA | apply pN | apply pD | refine pS ?_ GE388.out | refine pS ?_ GE389.out) | exact HB.out)) hb); clear BK388; clear BK389; clear HB; have BK388 := n0_; have BK389 := n1_; have HB := n2_; clear n0_ n1_ n2_; (try clear hb); (try clear hb2); (try clear hk); (try clear hi)) | ((with_reducible refine gate_dst (N := 9) rfl ?_); refine box_event ?hg (N := 9) ?hd (cs := #[.int .u64 0, .int .u64 0, .int .i64 0]) (t := 24) ?hr ?_; (case hd => rfl); (case hg => rfl); (case hr => first | (go_simp; done) | (go_simp; rfl)); intro gb398 hg w25 hbox hb; have n0_ := Aside0.mk (blk_below (g := gb388) (o := .cells #[.int .u64 a0_0, .int .u64 a0_1, .int .i64 a0_2, .int .u32 a0_3, .int .u32 a0_4, .int .u32 a0_5, .int .u32 a0_6] 59 (0, 0)) (by (with_reducible repeat (first | refine qN ?_ _ | refine qD ?_ | refine qA ?_ _)); exact BK388.out) hb); have n1_ := Aside0.mk (blk_below (g := gb389) (o := .cells #[.int .u64 a0_0, .int .u64 a0_1, .int .i64 a0_2] 24 (0, 0)) (by (with_reducible repeat (first | refine qN ?_ _ | refine qD ?_ | refine qA ?_ _)); exact BK389.out) hb); have n2_ := Aside0.mk (below_step (by repeat (first | (with_reducible first | exact HB.out | apply pA | apply pN | apply pD | refine pS ?_ GE388.out | refine pS ?_ GE389.out) | exact HB.out)) hb); have n3_ := Aside0.mk (hbox); have n4_ := Aside0.mk ((by rw [hg]; exact (below_size (by repeat (first | (with_reducible first | exact HB.out | apply pA | apply pN | apply pD | refine pS ?_ GE388.out | refine pS ?_ GE389.out) | exact HB.out))) : w.heap.size ≤ gb398)); have n5_ := Aside0.mk ((by rw [hg]; exact (below_size (by repeat (first | (with_reducible first | exact HB.out | apply pA | apply pN | apply pD | refine pS ?_ GE388.out | refine pS ?_ GE389.out) | exact HB.out))) : w.heap.size ≤ gb398)); have n6_ := Aside0.mk ((by rw [hg]; exact Nat.ne_of_lt (blk_lt (g := gb388) (o := .cells #[.int .u64 a0_0, .int .u64 a0_1, .int .i64 a0_2, .int .u32 a0_3, .int .u32 a0_4, .int .u32 a0_5, .int .u32 a0_6] 59 (0, 0)) (by (with_reducible repeat (first | refine qN ?_ _ | refine qD ?_ | refine qA ?_ _)); exact BK388.out)) : gb388 ≠ gb398)); have n7_ := Aside0.mk ((by rw [hg]; exact Nat.ne_of_gt (blk_lt (g := gb388) (o := .cells #[.int .u64 a0_0, .int .u64 a0_1, .int .i64 a0_2, .int .u32 a0_3, .int .u32 a0_4, .int .u32 a0_5, .int .u32 a0_6] 59 (0, 0)) (by (with_reducible repeat (first | refine qN ?_ _ | refine qD ?_ | refine qA ?_ _)); exact BK388.out)) : gb398 ≠ gb388)); have n8_ := Aside0.mk ((by rw [hg]; exact Nat.ne_of_lt (blk_lt (g := gb389) (o := .cells #[.int .u64 a0_0, .int .u64 a0_1, .int .i64 a0_2] 24 (0, 0)) (by (with_reducible repeat (first | refine qN ?_ _ | refine qD ?_ | refine qA ?_ _)); exact BK389.out)) : gb389 ≠ gb398)); have n9_ := Aside0.mk ((by rw [hg]; exact Nat.ne_of_gt (blk_lt (g := gb389) (o := .cells #[.int .u64 a0_0, .int .u64 a0_1, .int .i64 a0_2] 24 (0, 0)) (by (with_reducible repeat (first | refine qN ?_ _ | refine qD ?_ | refine qA ?_ _)); exact BK389.out)) : gb398 ≠ gb389)); clear BK388; clear BK389; clear HB; have BK388 := n0_; have BK389 := n1_; have HB := n2_; have BK398 := n3_; have GW398 := n4_; have GE398 := n5_; have NB388_398 := n6_; have NB398_388 := n7_; have NB389_398 := n8_; have NB398_389 := n9_; clear n0_ n1_ n2_ n3_ n4_ n5_ n6_ n7_ n8_ n9_; clear hb hbox hg; have hnb26 := NB398_388.out; have hnc26 := NB388_398.out; have hnb27 := NB398_389.out; have hnc27 := NB389_398.out; have hcz28_0 : w25.cell? ⟨gb398, 0, none⟩ = some (.int .u64 0) := (blk_cell BK398.out 0).trans rfl; have hcz28_1 : w25.cell? ⟨gb398, 1, none⟩ = some (.int .u64 0) := (blk_cell BK398.out 1).trans rfl; have hcz28_2 : w25.cell? ⟨gb398, 2, none⟩ = some (.int .i64 0) := (blk_cell BK398.out 2).trans rfl; have hfz28_0 := blk_frozen BK398.out 0; have hfz28_1 := blk_frozen BK398.out 1; have hfz28_2 := blk_frozen BK398.out 2; have hcz29_0 : w25.cell? ⟨gb389, 0, none⟩ = some (.int .u64 a0_0) := (blk_cell BK389.out 0).trans rfl; have hcz29_1 : w25.cell? ⟨gb389, 1, none⟩ = some (.int .u64 a0_1) := (blk_cell BK389.out 1).trans rfl; have hcz29_2 : w25.cell? ⟨gb389, 2, none⟩ = some (.int .i64 a0_2) := (blk_cell BK389.out 2).trans rfl; have hfz29_0 := blk_frozen BK389.out 0; have hfz29_1 := blk_frozen BK389.out 1; have hfz29_2 := blk_frozen BK389.out 2) | ((with_reducible refine gate_callee (f := 16) rfl ?_); refine goesL_ (some 48) rfl rfl Try.func16 (by kernel_rfl) rfl #[.agg #[.int .u64 a0_0, .int .u64 a0_1, .int .i64 a0_2], .int .i64 (wrap64 ((wrap64 (a0_3)) + (wrap64 (a0_5)))), .int .i64 (wrap64 ((wrap64 (a0_4)) + (wrap64 (a0_6))))] rfl (by (try simp only [List.map_toArray, List.map_cons, List.map_nil]); first | done | rfl | (simp only [List.length_drop, List.length_take]; rfl)) ?_; (with_reducible refine (meter_Count.calls a0_0 a0_1 a0_2 (wrap64 ((wrap64 (a0_3)) + (wrap64 (a0_5)))) (wrap64 ((wrap64 (a0_4)) + (wrap64 (a0_6)))) t399 t400 t401 _ A7.out).mono ?_); rintro e w30 ⟨rfl, hb⟩; refine ⟨_, rfl, ?_⟩; have n0_ := Aside0.mk (blk_below (g := gb388) (o := .cells #[.int .u64 a0_0, .int .u64 a0_1, .int .i64 a0_2, .int .u32 a0_3, .int .u32 a0_4, .int .u32 a0_5, .int .u32 a0_6] 59 (0, 0)) (by (with_reducible repeat (first | refine qN ?_ _ | refine qD ?_ | refine qA ?_ _)); refine blk_far ?_ NB388_398.out _; (with_reducible repeat (first | refine qN ?_ _ | refine qD ?_ | refine qA ?_ _)); refine blk_far ?_ NB388_398.out _; (with_reducible repeat (first | refine qN ?_ _ | refine qD ?_ | refine qA ?_ _)); refine blk_far ?_ NB388_398.out _; (with_reducible repeat (first | refine qN ?_ _ | refine qD ?_ | refine qA ?_ _)); exact BK388.out) hb); have n1_ := Aside0.mk (blk_below (g := gb389) (o := .cells #[.int .u64 a0_0, .int .u64 a0_1, .int .i64 a0_2] 24 (0, 0)) (by (with_reducible repeat (first | refine qN ?_ _ | refine qD ?_ | refine qA ?_ _)); refine blk_far ?_ NB389_398.out _; (with_reducible repeat (first | refine qN ?_ _ | refine qD ?_ | refine qA ?_ _)); refine blk_far ?_ NB389_398.out _; (with_reducible repeat (first | refine qN ?_ _ | refine qD ?_ | refine qA ?_ _)); refine blk_far ?_ NB389_398.out _; (with_reducible repeat (first | refine qN ?_ _ | refine qD ?_ | refine qA ?_ _)); exact BK389.out) hb); have n2_ := Aside0.mk (blk_below (g := gb398) (o := .cells #[.int .u64 t395, .int .u64 t396, .int .i64 t397] 24 (0, 0)) (by (with_reducible repeat (first | refine qN ?_ _ | refine qD ?_ | refine qA ?_ _)); refine blk_put (cs := #[.int .u64 t395, .int .u64 t396, .int .i64 0]) ?_ 2 _ rfl; (with_reducible repeat (first | refine qN ?_ _ | refine qD ?_ | refine qA ?_ _)); refine blk_put (cs := #[.int .u64 t395, .int .u64 0, .int .i64 0]) ?_ 1 _ rfl; (with_reducible repeat (first | refine qN ?_ _ | refine qD ?_ | refine qA ?_ _)); refine blk_put (cs := #[.int .u64 0, .int .u64 0, .int .i64 0]) ?_ 0 _ rfl; (with_reducible repeat (first | refine qN ?_ _ | refine qD ?_ | refine qA ?_ _)); exact BK398.out) hb); have n3_ := Aside0.mk (below_step (by repeat (first | (with_reducible first | exact HB.out | apply pA | apply pN | apply pD | refine pS ?_ GE388.out | refine pS ?_ GE389.out | refine pS ?_ GE398.out) | exact HB.out)) hb); clear BK388; clear BK389; clear BK398; clear HB; have BK388 := n0_; have BK389 := n1_; have BK398 := n2_; have HB := n3_; clear n0_ n1_ n2_ n3_; (try clear hb); (try clear hb2); (try clear hk); (try clear hi)) | ((with_reducible refine gate_dst (N := 10) rfl ?_); refine box_event ?hg (N := 10) ?hd (cs := #[.int .u64 0, .int .u64 0, .int .i64 0]) (t := 24) ?hr ?_; (case hd => rfl); (case hg => rfl); (case hr => first | (go_simp; done) | (go_simp; rfl)); intro gb402 hg w31 hbox hb; have n0_ := Aside0.mk (blk_below (g := gb388) (o := .cells #[.int .u64 a0_0, .int .u64 a0_1, .int .i64 a0_2, .int .u32 a0_3, .int .u32 a0_4, .int .u32 a0_5, .int .u32 a0_6] 59 (0, 0)) (by (with_reducible repeat (first | refine qN ?_ _ | refine qD ?_ | refine qA ?_ _)); exact BK388.out) hb); have n1_ := Aside0.mk (blk_below (g := gb389) (o := .cells #[.int .u64 a0_0, .int .u64 a0_1, .int .i64 a0_2] 24 (0, 0)) (by (with_reducible repeat (first | refine qN ?_ _ | refine qD ?_ | refine qA ?_ _)); exact BK389.out) hb); have n2_ := Aside0.mk (blk_below (g := gb398) (o := .cells #[.int .u64 t395, .int .u64 t396, .int .i64 t397] 24 (0, 0)) (by (with_reducible repeat (first | refine qN ?_ _ | refine qD ?_ | refine qA ?_ _)); exact BK398.out) hb); have n3_ := Aside0.mk (below_step (by repeat (first | (with_reducible first | exact HB.out | apply pA | apply pN | apply pD | refine pS ?_ GE388.out | refine pS ?_ GE389.out | refine pS ?_ GE398.out) | exact HB.out)) hb); have n4_ := Aside0.mk (hbox); have n5_ := Aside0.mk ((by rw [hg]; exact (below_size (by repeat (first | (with_reducible first | exact HB.out | apply pA | apply pN | apply pD | refine pS ?_ GE388.out | refine pS ?_ GE389.out | refine pS ?_ GE398.out) | exact HB.out))) : w.heap.size ≤ gb402)); have n6_ := Aside0.mk ((by rw [hg]; exact (below_size (by repeat (first | (with_reducible first | exact HB.out | apply pA | apply pN | apply pD | refine pS ?_ GE388.out | refine pS ?_ GE389.out | refine pS ?_ GE398.out) | exact HB.out))) : w.heap.size ≤ gb402)); have n7_ := Aside0.mk ((by rw [hg]; exact Nat.ne_of_lt (blk_lt (g := gb388) (o := .cells #[.int .u64 a0_0, .int .u64 a0_1, .int .i64 a0_2, .int .u32 a0_3, .int .u32 a0_4, .int .u32 a0_5, .int .u32 a0_6] 59 (0, 0)) (by (with_reducible repeat (first | refine qN ?_ _ | refine qD ?_ | refine qA ?_ _)); exact BK388.out)) : gb388 ≠ gb402)); have n8_ := Aside0.mk ((by rw [hg]; exact Nat.ne_of_gt (blk_lt (g := gb388) (o := .cells #[.int .u64 a0_0, .int .u64 a0_1, .int .i64 a0_2, .int .u32 a0_3, .int .u32 a0_4, .int .u32 a0_5, .int .u32 a0_6] 59 (0, 0)) (by (with_reducible repeat (first | refine qN ?_ _ | refine qD ?_ | refine qA ?_ _)); exact BK388.out)) : gb402 ≠ gb388)); have n9_ := Aside0.mk ((by rw [hg]; exact Nat.ne_of_lt (blk_lt (g := gb389) (o := .cells #[.int .u64 a0_0, .int .u64 a0_1, .int .i64 a0_2] 24 (0, 0)) (by (with_reducible repeat (first | refine qN ?_ _ | refine qD ?_ | refine qA ?_ _)); exact BK389.out)) : gb389 ≠ gb402)); have n10_ := Aside0.mk ((by rw [hg]; exact Nat.ne_of_gt (blk_lt (g := gb389) (o := .cells #[.int .u64 a0_0, .int .u64 a0_1, .int .i64 a0_2] 24 (0, 0)) (by (with_reducible repeat (first | refine qN ?_ _ | refine qD ?_ | refine qA ?_ _)); exact BK389.out)) : gb402 ≠ gb389)); have n11_ := Aside0.mk ((by rw [hg]; exact Nat.ne_of_lt (blk_lt (g := gb398) (o := .cells #[.int .u64 t395, .int .u64 t396, .int .i64 t397] 24 (0, 0)) (by (with_reducible repeat (first | refine qN ?_ _ | refine qD ?_ | refine qA ?_ _)); exact BK398.out)) : gb398 ≠ gb402)); have n12_ := Aside0.mk ((by rw [hg]; exact Nat.ne_of_gt (blk_lt (g := gb398) (o := .cells #[.int .u64 t395, .int .u64 t396, .int .i64 t397] 24 (0, 0)) (by (with_reducible repeat (first | refine qN ?_ _ | refine qD ?_ | refine qA ?_ _)); exact BK398.out)) : gb402 ≠ gb398)); clear BK388; clear BK389; clear BK398; clear HB; have BK388 := n0_; have BK389 := n1_; have BK398 := n2_; have HB := n3_; have BK402 := n4_; have GW402 := n5_; have GE402 := n6_; have NB388_402 := n7_; have NB402_388 := n8_; have NB389_402 := n9_; have NB402_389 := n10_; have NB398_402 := n11_; have NB402_398 := n12_; clear n0_ n1_ n2_ n3_ n4_ n5_ n6_ n7_ n8_ n9_ n10_ n11_ n12_; clear hb hbox hg; have hnb32 := NB402_388.out; have hnc32 := NB388_402.out; have hnb33 := NB402_389.out; have hnc33 := NB389_402.out; have hnb34 := NB402_398.out; have hnc34 := NB398_402.out; have hcz35_0 : w31.cell? ⟨gb402, 0, none⟩ = some (.int .u64 0) := (blk_cell BK402.out 0).trans rfl; have hcz35_1 : w31.cell? ⟨gb402, 1, none⟩ = some (.int .u64 0) := (blk_cell BK402.out 1).trans rfl; have hcz35_2 : w31.cell? ⟨gb402, 2, none⟩ = some (.int .i64 0) := (blk_cell BK402.out 2).trans rfl; have hfz35_0 := blk_frozen BK402.out 0; have hfz35_1 := blk_frozen BK402.out 1; have hfz35_2 := blk_frozen BK402.out 2))
          have n0_ : Aside0 ((((w31.setCell ⟨gb402, 0, none⟩ (.int .u64 t399)).setCell ⟨gb402, 1, none⟩ (.int .u64 t400)).setCell ⟨gb402, 2, none⟩ (.int .i64 t401)).heap[gb388]? = some (.cells #[.int .u64 a0_0, .int .u64 a0_1, .int .i64 a0_2, .int .u32 a0_3, .int .u32 a0_4, .int .u32 a0_5, .int .u32 a0_6] 59 (0, 0))) := ⟨by (with_reducible repeat (first | refine qN ?_ _ | refine qD ?_ | refine qA ?_ _)); refine blk_far ?_ NB388_402.out _; (with_reducible repeat (first | refine qN ?_ _ | refine qD ?_ | refine qA ?_ _)); refine blk_far ?_ NB388_402.out _; (with_reducible repeat (first | refine qN ?_ _ | refine qD ?_ | refine qA ?_ _)); refine blk_far ?_ NB388_402.out _; (with_reducible repeat (first | refine qN ?_ _ | refine qD ?_ | refine qA ?_ _)); exact BK388.out⟩
          have n1_ : Aside0 ((((w31.setCell ⟨gb402, 0, none⟩ (.int .u64 t399)).setCell ⟨gb402, 1, none⟩ (.int .u64 t400)).setCell ⟨gb402, 2, none⟩ (.int .i64 t401)).heap[gb389]? = some (.cells #[.int .u64 a0_0, .int .u64 a0_1, .int .i64 a0_2] 24 (0, 0))) := ⟨by (with_reducible repeat (first | refine qN ?_ _ | refine qD ?_ | refine qA ?_ _)); refine blk_far ?_ NB389_402.out _; (with_reducible repeat (first | refine qN ?_ _ | refine qD ?_ | refine qA ?_ _)); refine blk_far ?_ NB389_402.out _; (with_reducible repeat (first | refine qN ?_ _ | refine qD ?_ | refine qA ?_ _)); refine blk_far ?_ NB389_402.out _; (with_reducible repeat (first | refine qN ?_ _ | refine qD ?_ | refine qA ?_ _)); exact BK389.out⟩
          have n2_ : Aside0 ((((w31.setCell ⟨gb402, 0, none⟩ (.int .u64 t399)).setCell ⟨gb402, 1, none⟩ (.int .u64 t400)).setCell ⟨gb402, 2, none⟩ (.int .i64 t401)).heap[gb398]? = some (.cells #[.int .u64 t395, .int .u64 t396, .int .i64 t397] 24 (0, 0))) := ⟨by (with_reducible repeat (first | refine qN ?_ _ | refine qD ?_ | refine qA ?_ _)); refine blk_far ?_ NB398_402.out _; (with_reducible repeat (first | refine qN ?_ _ | refine qD ?_ | refine qA ?_ _)); refine blk_far ?_ NB398_402.out _; (with_reducible repeat (first | refine qN ?_ _ | refine qD ?_ | refine qA ?_ _)); refine blk_far ?_ NB398_402.out _; (with_reducible repeat (first | refine qN ?_ _ | refine qD ?_ | refine qA ?_ _)); exact BK398.out⟩
          have n3_ : Aside0 ((((w31.setCell ⟨gb402, 0, none⟩ (.int .u64 t399)).setCell ⟨gb402, 1, none⟩ (.int .u64 t400)).setCell ⟨gb402, 2, none⟩ (.int .i64 t401)).heap[gb402]? = some (.cells #[.int .u64 t399, .int .u64 t400, .int .i64 t401] 24 (0, 0))) := ⟨by (with_reducible repeat (first | refine qN ?_ _ | refine qD ?_ | refine qA ?_ _)); refine blk_put (cs := #[.int .u64 t399, .int .u64 t400, .int .i64 0]) ?_ 2 _ rfl; (with_reducible repeat (first | refine qN ?_ _ | refine qD ?_ | refine qA ?_ _)); refine blk_put (cs := #[.int .u64 t399, .int .u64 0, .int .i64 0]) ?_ 1 _ rfl; (with_reducible repeat (first | refine qN ?_ _ | refine qD ?_ | refine qA ?_ _)); refine blk_put (cs := #[.int .u64 0, .int .u64 0, .int .i64 0]) ?_ 0 _ rfl; (with_reducible repeat (first | refine qN ?_ _ | refine qD ?_ | refine qA ?_ _)); exact BK402.out⟩
          have n4_ : Aside0 (Below w.heap.size w (((w31.setCell ⟨gb402, 0, none⟩ (.int .u64 t399)).setCell ⟨gb402, 1, none⟩ (.int .u64 t400)).setCell ⟨gb402, 2, none⟩ (.int .i64 t401))) := ⟨by repeat (first | (with_reducible first | exact HB.out | apply pA | apply pN | apply pD | refine pS ?_ GE388.out | refine pS ?_ GE389.out | refine pS ?_ GE398.out | refine pS ?_ GE402.out) | exact HB.out)⟩
          (try clear BK388)
          (try clear BK389)
          (try clear BK398)
          (try clear BK402)
          (try clear HB)
          generalize (((w31.setCell ⟨gb402, 0, none⟩ (.int .u64 t399)).setCell ⟨gb402, 1, none⟩ (.int .u64 t400)).setCell ⟨gb402, 2, none⟩ (.int .i64 t401)) = w36 at n0_ n1_ n2_ n3_ n4_ ⊢
          have BK388 := n0_
          have BK389 := n1_
          have BK398 := n2_
          have BK402 := n3_
          have HB := n4_
          clear n0_ n1_ n2_ n3_ n4_
          have n0_ := Aside0.mk (qD BK388.out)
          have n1_ := Aside0.mk (qD BK389.out)
          have n2_ := Aside0.mk (qD BK398.out)
          have n3_ := Aside0.mk (qD BK402.out)
          have n4_ := Aside0.mk (pD HB.out)
          clear BK388
          clear BK389
          clear BK398
          clear BK402
          clear HB
          have BK388 := n0_
          have BK389 := n1_
          have BK398 := n2_
          have BK402 := n3_
          have HB := n4_
          clear n0_ n1_ n2_ n3_ n4_
          refine start_ (n := 19) (S := fun w' => w'.cell? ⟨gb398, 0, none⟩ = some (.int .u64 t395) ∧ w'.cell? ⟨gb398, 1, none⟩ = some (.int .u64 t396) ∧ w'.cell? ⟨gb398, 2, none⟩ = some (.int .i64 t397) ∧ w'.cell? ⟨gb402, 0, none⟩ = some (.int .u64 t399) ∧ w'.cell? ⟨gb402, 1, none⟩ = some (.int .u64 t400) ∧ w'.cell? ⟨gb402, 2, none⟩ = some (.int .i64 t401) ∧ w'.cell? ⟨gb389, 0, none⟩ = some (.int .u64 a0_0) ∧ w'.cell? ⟨gb389, 1, none⟩ = some (.int .u64 a0_1) ∧ w'.cell? ⟨gb389, 2, none⟩ = some (.int .i64 a0_2)) (ds := []) #[false, false, false, false, false, false, false, false, false, false, false, false, false, false, false, false, false, false, false] (by kernel_rfl) rfl rfl ⟨(blk_cell BK398.out 0).trans rfl, (blk_cell BK398.out 1).trans rfl, (blk_cell BK398.out 2).trans rfl, (blk_cell BK402.out 0).trans rfl, (blk_cell BK402.out 1).trans rfl, (blk_cell BK402.out 2).trans rfl, (blk_cell BK389.out 0).trans rfl, (blk_cell BK389.out 1).trans rfl, (blk_cell BK389.out 2).trans rfl⟩ (fun hHeld => ?_); refine with_tabW portreevelaw17_MeterSums.tab11 portreevelaw17_MeterSums.bits11 (fun HT_ HW_ => ?_)
          generalize w36.drew = w37 at BK388 BK389 BK398 BK402 HB hHeld ⊢
          refine pure_ (i := 0) (N := some 49) (v := ?_) (a' := ?_) #[true, false, false, false, false, false, false, false, false, false, false, false, false, false, false, false, false, false, false] rfl rfl (any_of HT_.out (by kernel_rfl)) (fun _ _ _ h => h) (Or.inl ⟨by rfl, ?_⟩) ?_ ?_
          rotate_left
          · intro w'
            go_simp
            with_reducible rfl
          rotate_left
          · simp only [Act.put, List.setIfInBounds_toArray, List.set_cons_zero, List.set_cons_succ, i64_w, i32_w]
            rfl
          refine pure_ (i := 1) (N := some 50) (v := ?_) (a' := ?_) #[true, true, false, false, false, false, false, false, false, false, false, false, false, false, false, false, false, false, false] rfl rfl (any_of HT_.out (by kernel_rfl)) (fun _ _ _ h => h) (Or.inl ⟨by rfl, ?_⟩) ?_ ?_
          rotate_left
          · intro w'
            go_simp
            with_reducible rfl
          rotate_left
          · simp only [Act.put, List.setIfInBounds_toArray, List.set_cons_zero, List.set_cons_succ, i64_w, i32_w]
            rfl
          refine take_ (i := 2) (N := some 51) (v := ?_) (a' := ?_) #[true, true, true, false, false, false, false, false, false, false, false, false, false, false, false, false, false, false, false] rfl rfl (take_ofW HT_.out HW_.out (by kernel_rfl)) (fun _ _ _ h => h) (Or.inl ⟨by rfl, ?_⟩) hHeld ?_ ?_
          rotate_left
          · rintro w' ⟨s0, s1, s2, s3, s4, s5, s6, s7, s8⟩
            go_simp
            with_reducible rfl
          rotate_left
          · simp only [Act.put, List.setIfInBounds_toArray, List.set_cons_zero, List.set_cons_succ, i64_w, i32_w]
            rfl
          refine take_ (i := 3) (N := some 52) (v := ?_) (a' := ?_) #[true, true, true, true, false, false, false, false, false, false, false, false, false, false, false, false, false, false, false] rfl rfl (take_ofW HT_.out HW_.out (by kernel_rfl)) (fun _ _ _ h => h) (Or.inl ⟨by rfl, ?_⟩) hHeld ?_ ?_
          rotate_left
          · rintro w' ⟨s0, s1, s2, s3, s4, s5, s6, s7, s8⟩
            go_simp
            with_reducible rfl
          rotate_left
          · simp only [Act.put, List.setIfInBounds_toArray, List.set_cons_zero, List.set_cons_succ, i64_w, i32_w]
            rfl
          refine pure_ (i := 4) (N := some 53) (v := ?_) (a' := ?_) #[true, true, true, true, true, false, false, false, false, false, false, false, false, false, false, false, false, false, false] rfl rfl (any_of HT_.out (by kernel_rfl)) (fun _ _ _ h => h) (Or.inl ⟨by rfl, ?_⟩) ?_ ?_
          rotate_left
          · intro w'
            go_simp
            with_reducible rfl
          rotate_left
          · simp only [Act.put, List.setIfInBounds_toArray, List.set_cons_zero, List.set_cons_succ, i64_w, i32_w]
            rfl
          refine pure_ (i := 5) (N := some 54) (v := ?_) (a' := ?_) #[true, true, true, true, true, true, false, false, false, false, false, false, false, false, false, false, false, false, false] rfl rfl (any_of HT_.out (by kernel_rfl)) (fun _ _ _ h => h) (Or.inl ⟨by rfl, ?_⟩) ?_ ?_
          rotate_left
          · intro w'
            go_simp
            with_reducible rfl
          rotate_left
          · simp only [Act.put, List.setIfInBounds_toArray, List.set_cons_zero, List.set_cons_succ, i64_w, i32_w]
            rfl
          refine pure_ (i := 6) (N := some 55) (v := ?_) (a' := ?_) #[true, true, true, true, true, true, true, false, false, false, false, false, false, false, false, false, false, false, false] rfl rfl (any_of HT_.out (by kernel_rfl)) (fun _ _ _ h => h) (Or.inl ⟨by rfl, ?_⟩) ?_ ?_
          rotate_left
          · intro w'
            go_simp
            with_reducible rfl
          rotate_left
          · simp only [Act.put, List.setIfInBounds_toArray, List.set_cons_zero, List.set_cons_succ, i64_w, i32_w]
            rfl
          refine take_ (i := 7) (N := some 56) (v := ?_) (a' := ?_) #[true, true, true, true, true, true, true, true, false, false, false, false, false, false, false, false, false, false, false] rfl rfl (take_ofW HT_.out HW_.out (by kernel_rfl)) (fun _ _ _ h => h) (Or.inl ⟨by rfl, ?_⟩) hHeld ?_ ?_
          rotate_left
          · rintro w' ⟨s0, s1, s2, s3, s4, s5, s6, s7, s8⟩
            go_simp
            with_reducible rfl
          rotate_left
          · simp only [Act.put, List.setIfInBounds_toArray, List.set_cons_zero, List.set_cons_succ, i64_w, i32_w]
            rfl
          refine take_ (i := 9) (N := some 58) (v := ?_) (a' := ?_) #[true, true, true, true, true, true, true, true, false, true, false, false, false, false, false, false, false, false, false] rfl rfl (take_ofW HT_.out HW_.out (by kernel_rfl)) (fun _ _ _ h => h) (Or.inl ⟨by rfl, ?_⟩) hHeld ?_ ?_
          rotate_left
          · rintro w' ⟨s0, s1, s2, s3, s4, s5, s6, s7, s8⟩
            go_simp
            with_reducible rfl
          rotate_left
          · simp only [Act.put, List.setIfInBounds_toArray, List.set_cons_zero, List.set_cons_succ, i64_w, i32_w]
            rfl
          refine one_ (i := 8) (N := some 57) #[true, true, true, true, true, true, true, true, true, true, false, false, false, false, false, false, false, false, false] rfl rfl (one_of HT_.out (by kernel_rfl)) (by decide) (fun K hK => ?_)
          refine goes_ Try.func16 (by kernel_rfl) rfl #[.agg #[.int .u64 a0_0, .int .u64 a0_1, .int .i64 a0_2], .int .i64 0, .int .i64 0] (by rfl) rfl rfl (by (try simp only [List.map_toArray, List.map_cons, List.map_nil]); first | done | rfl | (simp only [List.length_drop, List.length_take]; rfl)) ?_
          with_reducible refine (meter_Count.calls a0_0 a0_1 a0_2 0 0 t403 t404 t405 _ A10.out).mono ?_
          rintro e w38 ⟨rfl, hb⟩
          refine ⟨_, rfl, ?_⟩
          have n0_ := Aside0.mk (blk_below (g := gb388) (o := .cells #[.int .u64 a0_0, .int .u64 a0_1, .int .i64 a0_2, .int .u32 a0_3, .int .u32 a0_4, .int .u32 a0_5, .int .u32 a0_6] 59 (0, 0)) (by (with_reducible repeat (first | refine qN ?_ _ | refine qD ?_ | refine qA ?_ _)); exact BK388.out) hb)
          have n1_ := Aside0.mk (blk_below (g := gb389) (o := .cells #[.int .u64 a0_0, .int .u64 a0_1, .int .i64 a0_2] 24 (0, 0)) (by (with_reducible repeat (first | refine qN ?_ _ | refine qD ?_ | refine qA ?_ _)); exact BK389.out) hb)
          have n2_ := Aside0.mk (blk_below (g := gb398) (o := .cells #[.int .u64 t395, .int .u64 t396, .int .i64 t397] 24 (0, 0)) (by (with_reducible repeat (first | refine qN ?_ _ | refine qD ?_ | refine qA ?_ _)); exact BK398.out) hb)
          have n3_ := Aside0.mk (blk_below (g := gb402) (o := .cells #[.int .u64 t399, .int .u64 t400, .int .i64 t401] 24 (0, 0)) (by (with_reducible repeat (first | refine qN ?_ _ | refine qD ?_ | refine qA ?_ _)); exact BK402.out) hb)
          have n4_ := Aside0.mk (below_step (by repeat (first | (with_reducible first | exact HB.out | apply pA | apply pN | apply pD | refine pS ?_ GE388.out | refine pS ?_ GE389.out | refine pS ?_ GE398.out | refine pS ?_ GE402.out) | exact HB.out)) hb)
          clear BK388
          clear BK389
          clear BK398
          clear BK402
          clear HB
          have BK388 := n0_
          have BK389 := n1_
          have BK398 := n2_
          have BK402 := n3_
          have HB := n4_
          clear n0_ n1_ n2_ n3_ n4_
          (try clear hb)
          (try clear hb2)
          (try clear hk)
          (try clear hi)
          refine hK.out _ _ ⟨(blk_cell BK398.out 0).trans rfl, (blk_cell BK398.out 1).trans rfl, (blk_cell BK398.out 2).trans rfl, (blk_cell BK402.out 0).trans rfl, (blk_cell BK402.out 1).trans rfl, (blk_cell BK402.out 2).trans rfl, (blk_cell BK389.out 0).trans rfl, (blk_cell BK389.out 1).trans rfl, (blk_cell BK389.out 2).trans rfl⟩ (fun hHeld => ?_)
          clear hK K
          refine norm_ (a' := ?_) ?_ ?_
          rotate_left
          · show Act.put _ (some 57) _ = _
            simp only [Act.put, List.setIfInBounds_toArray, List.set_cons_zero, List.set_cons_succ, i64_w, i32_w]
            rfl
          refine pure_ (i := 10) (N := some 59) (v := ?_) (a' := ?_) #[true, true, true, true, true, true, true, true, true, true, true, false, false, false, false, false, false, false, false] rfl rfl (any_of HT_.out (by kernel_rfl)) (fun _ _ _ h => h) (Or.inl ⟨by rfl, ?_⟩) ?_ ?_
          rotate_left
          · intro w'
            go_simp
            with_reducible rfl
          rotate_left
          · simp only [Act.put, List.setIfInBounds_toArray, List.set_cons_zero, List.set_cons_succ, i64_w, i32_w]
            rfl
          refine pure_ (i := 11) (N := some 60) (v := ?_) (a' := ?_) #[true, true, true, true, true, true, true, true, true, true, true, true, false, false, false, false, false, false, false] rfl rfl (any_of HT_.out (by kernel_rfl)) (fun _ _ _ h => h) (Or.inl ⟨by rfl, ?_⟩) ?_ ?_
          rotate_left
          · intro w'
            go_simp
            with_reducible rfl
          rotate_left
          · simp only [Act.put, List.setIfInBounds_toArray, List.set_cons_zero, List.set_cons_succ, i64_w, i32_w]
            rfl
          refine pure_ (i := 12) (N := some 61) (v := ?_) (a' := ?_) #[true, true, true, true, true, true, true, true, true, true, true, true, true, false, false, false, false, false, false] rfl rfl (any_of HT_.out (by kernel_rfl)) (fun _ _ _ h => h) (Or.inl ⟨by rfl, ?_⟩) ?_ ?_
          rotate_left
          · intro w'
            go_simp
            with_reducible rfl
          rotate_left
          · simp only [Act.put, List.setIfInBounds_toArray, List.set_cons_zero, List.set_cons_succ, i64_w, i32_w]
            rfl
          refine take_ (i := 13) (N := some 62) (v := ?_) (a' := ?_) #[true, true, true, true, true, true, true, true, true, true, true, true, true, true, false, false, false, false, false] rfl rfl (take_ofW HT_.out HW_.out (by kernel_rfl)) (fun _ _ _ h => h) (Or.inl ⟨by rfl, ?_⟩) hHeld ?_ ?_
          rotate_left
          · rintro w' ⟨s0, s1, s2, s3, s4, s5, s6, s7, s8⟩
            go_simp
            with_reducible rfl
          rotate_left
          · simp only [Act.put, List.setIfInBounds_toArray, List.set_cons_zero, List.set_cons_succ, i64_w, i32_w]
            rfl
          refine take_ (i := 15) (N := some 64) (v := ?_) (a' := ?_) #[true, true, true, true, true, true, true, true, true, true, true, true, true, true, false, true, false, false, false] rfl rfl (take_ofW HT_.out HW_.out (by kernel_rfl)) (fun _ _ _ h => h) (Or.inl ⟨by rfl, ?_⟩) hHeld ?_ ?_
          rotate_left
          · rintro w' ⟨s0, s1, s2, s3, s4, s5, s6, s7, s8⟩
            go_simp
            with_reducible rfl
          rotate_left
          · simp only [Act.put, List.setIfInBounds_toArray, List.set_cons_zero, List.set_cons_succ, i64_w, i32_w]
            rfl
          refine one_ (i := 14) (N := some 63) #[true, true, true, true, true, true, true, true, true, true, true, true, true, true, true, true, false, false, false] rfl rfl (one_of HT_.out (by kernel_rfl)) (by decide) (fun K hK => ?_)
          refine goes_ Try.func16 (by kernel_rfl) rfl #[.agg #[.int .u64 a0_0, .int .u64 a0_1, .int .i64 a0_2], .int .i64 (-1), .int .i64 (-5)] (by rfl) rfl rfl (by (try simp only [List.map_toArray, List.map_cons, List.map_nil]); first | done | rfl | (simp only [List.length_drop, List.length_take]; rfl)) ?_
          with_reducible refine (meter_Count.calls a0_0 a0_1 a0_2 (-1) (-5) t406 t407 t408 _ A12.out).mono ?_
          rintro e w39 ⟨rfl, hb⟩
          refine ⟨_, rfl, ?_⟩
          have n0_ := Aside0.mk (blk_below (g := gb388) (o := .cells #[.int .u64 a0_0, .int .u64 a0_1, .int .i64 a0_2, .int .u32 a0_3, .int .u32 a0_4, .int .u32 a0_5, .int .u32 a0_6] 59 (0, 0)) (by (with_reducible repeat (first | refine qN ?_ _ | refine qD ?_ | refine qA ?_ _)); exact BK388.out) hb)
          have n1_ := Aside0.mk (blk_below (g := gb389) (o := .cells #[.int .u64 a0_0, .int .u64 a0_1, .int .i64 a0_2] 24 (0, 0)) (by (with_reducible repeat (first | refine qN ?_ _ | refine qD ?_ | refine qA ?_ _)); exact BK389.out) hb)
          have n2_ := Aside0.mk (blk_below (g := gb398) (o := .cells #[.int .u64 t395, .int .u64 t396, .int .i64 t397] 24 (0, 0)) (by (with_reducible repeat (first | refine qN ?_ _ | refine qD ?_ | refine qA ?_ _)); exact BK398.out) hb)
          have n3_ := Aside0.mk (blk_below (g := gb402) (o := .cells #[.int .u64 t399, .int .u64 t400, .int .i64 t401] 24 (0, 0)) (by (with_reducible repeat (first | refine qN ?_ _ | refine qD ?_ | refine qA ?_ _)); exact BK402.out) hb)
          have n4_ := Aside0.mk (below_step (by repeat (first | (with_reducible first | exact HB.out | apply pA | apply pN | apply pD | refine pS ?_ GE388.out | refine pS ?_ GE389.out | refine pS ?_ GE398.out | refine pS ?_ GE402.out) | exact HB.out)) hb)
          clear BK388
          clear BK389
          clear BK398
          clear BK402
          clear HB
          have BK388 := n0_
          have BK389 := n1_
          have BK398 := n2_
          have BK402 := n3_
          have HB := n4_
          clear n0_ n1_ n2_ n3_ n4_
          (try clear hb)
          (try clear hb2)
          (try clear hk)
          (try clear hi)
          refine hK.out _ _ ⟨(blk_cell BK398.out 0).trans rfl, (blk_cell BK398.out 1).trans rfl, (blk_cell BK398.out 2).trans rfl, (blk_cell BK402.out 0).trans rfl, (blk_cell BK402.out 1).trans rfl, (blk_cell BK402.out 2).trans rfl, (blk_cell BK389.out 0).trans rfl, (blk_cell BK389.out 1).trans rfl, (blk_cell BK389.out 2).trans rfl⟩ (fun hHeld => ?_)
          clear hK K
          refine norm_ (a' := ?_) ?_ ?_
          rotate_left
          · show Act.put _ (some 63) _ = _
            simp only [Act.put, List.setIfInBounds_toArray, List.set_cons_zero, List.set_cons_succ, i64_w, i32_w]
            rfl
          refine pure_ (i := 16) (N := some 65) (v := ?_) (a' := ?_) #[true, true, true, true, true, true, true, true, true, true, true, true, true, true, true, true, true, false, false] rfl rfl (any_of HT_.out (by kernel_rfl)) (fun _ _ _ h => h) (Or.inl ⟨by rfl, ?_⟩) ?_ ?_
          rotate_left
          · intro w'
            go_simp
            with_reducible rfl
          rotate_left
          · simp only [Act.put, List.setIfInBounds_toArray, List.set_cons_zero, List.set_cons_succ, i64_w, i32_w]
            rfl
          refine pure_ (i := 17) (N := some 66) (v := ?_) (a' := ?_) #[true, true, true, true, true, true, true, true, true, true, true, true, true, true, true, true, true, true, false] rfl rfl (any_of HT_.out (by kernel_rfl)) (fun _ _ _ h => h) (Or.inl ⟨by rfl, ?_⟩) ?_ ?_
          rotate_left
          · intro w'
            go_simp
            with_reducible rfl
          rotate_left
          · simp only [Act.put, List.setIfInBounds_toArray, List.set_cons_zero, List.set_cons_succ, i64_w, i32_w]
            rfl
          refine pure_ (i := 18) (N := some 2) (v := ?_) (a' := ?_) #[true, true, true, true, true, true, true, true, true, true, true, true, true, true, true, true, true, true, true] rfl rfl (any_of HT_.out (by kernel_rfl)) (fun _ _ _ h => h) (Or.inl ⟨by rfl, ?_⟩) ?_ ?_
          rotate_left
          · intro w'
            go_simp
            with_reducible rfl
          rotate_left
          · simp only [Act.put, List.setIfInBounds_toArray, List.set_cons_zero, List.set_cons_succ, i64_w, i32_w]
            rfl
          refine done_ (done_of HT_.out (by kernel_rfl)) ?_
          try go_wp2
          go_ret
          exact ⟨by first | rfl | (simp [errW_none, errW_some] <;> rfl) | (simp [*, errW_none, errW_some] <;> rfl), by repeat (first | (with_reducible first | exact HB.out | apply pA | apply pN | apply pD | refine pS ?_ GE388.out | refine pS ?_ GE389.out | refine pS ?_ GE398.out | refine pS ?_ GE402.out) | exact HB.out)⟩
        · rw [if_neg c11] at H
          have c11b0 : (t403 == a0_0 && (t404 == a0_1 && (t405 == a0_2))) = false := by simpa using c11
          (try (have c11b1 : decide (t403 = a0_0 && (t404 == a0_1 && (t405 == a0_2))) = false := by simpa using c11))
          (try (have c11b2 : (t403 == a0_0 && (t404 == a0_1 && (t405 == a0_2))) = false := by simpa using c11))
          (try (have c11b3 : ¬ (t403 = a0_0 && (t404 == a0_1 && (t405 == a0_2))) := by simpa using c11))
          clear c11
          exact absurd ((Option.some.inj H).trans hlaw_.out) (by decide)
      · rw [if_neg c9] at H
        have c9b0 : (t395 == t399 && (t396 == t400 && (t397 == t401))) = false := by simpa using c9
        (try (have c9b1 : decide (t395 = t399 && (t396 == t400 && (t397 == t401))) = false := by simpa using c9))
        (try (have c9b2 : (t395 == t399 && (t396 == t400 && (t397 == t401))) = false := by simpa using c9))
        (try (have c9b3 : ¬ (t395 = t399 && (t396 == t400 && (t397 == t401))) := by simpa using c9))
        clear c9
        exact absurd ((Option.some.inj H).trans hlaw_.out) (by decide)
    · replace c8 := Bool.eq_false_iff.mpr c8
      subst c8
      have H1 : (some false) = some r := by rw [if_neg (show ¬ (false = true) by decide)] at H; exact H
      clear H
      have H := H1
      clear H1
      exact absurd ((Option.some.inj H).trans hlaw_.out) (by decide)
  · replace c4 := Bool.eq_false_iff.mpr c4
    subst c4
    have H1 : (some t390) = some r := by rw [if_neg (show ¬ (false = true) by decide)] at H; exact H
    clear H
    have H := H1
    clear H1
    clear hlaw_
    obtain rfl := Option.some.inj H
    go_enter Try.func6, Try.ntmps6
    go_wp2_with (first | ((with_reducible refine gate_dst (N := 1) rfl ?_); refine box_event ?hg (N := 1) ?hd (cs := #[.int .u64 a0_0, .int .u64 a0_1, .int .i64 a0_2, .int .u32 a0_3, .int .u32 a0_4, .int .u32 a0_5, .int .u32 a0_6]) (t := 59) ?hr ?_; (case hd => rfl); (case hg => rfl); (case hr => first | (go_simp; done) | (go_simp; rfl)); intro gb388 hg w40 hbox hb; have n0_ := Aside0.mk (below_step (by repeat (first | (with_reducible first | exact HB.out | apply pA | apply pN | apply pD) | exact HB.out)) hb); have n1_ := Aside0.mk (hbox); have n2_ := Aside0.mk ((by rw [hg]; exact (below_size (by repeat (first | (with_reducible first | exact HB.out | apply pA | apply pN | apply pD) | exact HB.out))) : w.heap.size ≤ gb388)); have n3_ := Aside0.mk ((by rw [hg]; exact (below_size (by repeat (first | (with_reducible first | exact HB.out | apply pA | apply pN | apply pD) | exact HB.out))) : w.heap.size ≤ gb388)); clear HB; have HB := n0_; have BK388 := n1_; have GW388 := n2_; have GE388 := n3_; clear n0_ n1_ n2_ n3_; clear hb hbox hg; have hcz41_0 : w40.cell? ⟨gb388, 0, none⟩ = some (.int .u64 a0_0) := (blk_cell BK388.out 0).trans rfl; have hcz41_1 : w40.cell? ⟨gb388, 1, none⟩ = some (.int .u64 a0_1) := (blk_cell BK388.out 1).trans rfl; have hcz41_2 : w40.cell? ⟨gb388, 2, none⟩ = some (.int .i64 a0_2) := (blk_cell BK388.out 2).trans rfl; have hcz41_3 : w40.cell? ⟨gb388, 3, none⟩ = some (.int .u32 a0_3) := (blk_cell BK388.out 3).trans rfl; have hcz41_4 : w40.cell? ⟨gb388, 4, none⟩ = some (.int .u32 a0_4) := (blk_cell BK388.out 4).trans rfl; have hcz41_5 : w40.cell? ⟨gb388, 5, none⟩ = some (.int .u32 a0_5) := (blk_cell BK388.out 5).trans rfl; have hcz41_6 : w40.cell? ⟨gb388, 6, none⟩ = some (.int .u32 a0_6) := (blk_cell BK388.out 6).trans rfl; have hfz41_0 := blk_frozen BK388.out 0; have hfz41_1 := blk_frozen BK388.out 1; have hfz41_2 := blk_frozen BK388.out 2; have hfz41_3 := blk_frozen BK388.out 3; have hfz41_4 := blk_frozen BK388.out 4; have hfz41_5 := blk_frozen BK388.out 5; have hfz41_6 := blk_frozen BK388.out 6) | ((with_reducible refine gate_dst (N := 3) rfl ?_); refine box_event ?hg (N := 3) ?hd (cs := #[.int .u64 0, .int .u64 0, .int .i64 0]) (t := 24) ?hr ?_; (case hd => rfl); (case hg => rfl); (case hr => first | (go_simp; done) | (go_simp; rfl)); intro gb389 hg w42 hbox hb; have n0_ := Aside0.mk (blk_below (g := gb388) (o := .cells #[.int .u64 a0_0, .int .u64 a0_1, .int .i64 a0_2, .int .u32 a0_3, .int .u32 a0_4, .int .u32 a0_5, .int .u32 a0_6] 59 (0, 0)) (by (with_reducible repeat (first | refine qN ?_ _ | refine qD ?_ | refine qA ?_ _)); exact BK388.out) hb); have n1_ := Aside0.mk (below_step (by repeat (first | (with_reducible first | exact HB.out | apply pA | apply pN | apply pD | refine pS ?_ GE388.out) | exact HB.out)) hb); have n2_ := Aside0.mk (hbox); have n3_ := Aside0.mk ((by rw [hg]; exact (below_size (by repeat (first | (with_reducible first | exact HB.out | apply pA | apply pN | apply pD | refine pS ?_ GE388.out) | exact HB.out))) : w.heap.size ≤ gb389)); have n4_ := Aside0.mk ((by rw [hg]; exact (below_size (by repeat (first | (with_reducible first | exact HB.out | apply pA | apply pN | apply pD | refine pS ?_ GE388.out) | exact HB.out))) : w.heap.size ≤ gb389)); have n5_ := Aside0.mk ((by rw [hg]; exact Nat.ne_of_lt (blk_lt (g := gb388) (o := .cells #[.int .u64 a0_0, .int .u64 a0_1, .int .i64 a0_2, .int .u32 a0_3, .int .u32 a0_4, .int .u32 a0_5, .int .u32 a0_6] 59 (0, 0)) (by (with_reducible repeat (first | refine qN ?_ _ | refine qD ?_ | refine qA ?_ _)); exact BK388.out)) : gb388 ≠ gb389)); have n6_ := Aside0.mk ((by rw [hg]; exact Nat.ne_of_gt (blk_lt (g := gb388) (o := .cells #[.int .u64 a0_0, .int .u64 a0_1, .int .i64 a0_2, .int .u32 a0_3, .int .u32 a0_4, .int .u32 a0_5, .int .u32 a0_6] 59 (0, 0)) (by (with_reducible repeat (first | refine qN ?_ _ | refine qD ?_ | refine qA ?_ _)); exact BK388.out)) : gb389 ≠ gb388)); clear BK388; clear HB; have BK388 := n0_; have HB := n1_; have BK389 := n2_; have GW389 := n3_; have GE389 := n4_; have NB388_389 := n5_; have NB389_388 := n6_; clear n0_ n1_ n2_ n3_ n4_ n5_ n6_; clear hb hbox hg; have hnb43 := NB389_388.out; have hnc43 := NB388_389.out; have hcz44_0 : w42.cell? ⟨gb389, 0, none⟩ = some (.int .u64 0) := (blk_cell BK389.out 0).trans rfl; have hcz44_1 : w42.cell? ⟨gb389, 1, none⟩ = some (.int .u64 0) := (blk_cell BK389.out 1).trans rfl; have hcz44_2 : w42.cell? ⟨gb389, 2, none⟩ = some (.int .i64 0) := (blk_cell BK389.out 2).trans rfl; have hfz44_0 := blk_frozen BK389.out 0; have hfz44_1 := blk_frozen BK389.out 1; have hfz44_2 := blk_frozen BK389.out 2; have hcz45_0 : w42.cell? ⟨gb388, 0, none⟩ = some (.int .u64 a0_0) := (blk_cell BK388.out 0).trans rfl; have hcz45_1 : w42.cell? ⟨gb388, 1, none⟩ = some (.int .u64 a0_1) := (blk_cell BK388.out 1).trans rfl; have hcz45_2 : w42.cell? ⟨gb388, 2, none⟩ = some (.int .i64 a0_2) := (blk_cell BK388.out 2).trans rfl; have hcz45_3 : w42.cell? ⟨gb388, 3, none⟩ = some (.int .u32 a0_3) := (blk_cell BK388.out 3).trans rfl; have hcz45_4 : w42.cell? ⟨gb388, 4, none⟩ = some (.int .u32 a0_4) := (blk_cell BK388.out 4).trans rfl; have hcz45_5 : w42.cell? ⟨gb388, 5, none⟩ = some (.int .u32 a0_5) := (blk_cell BK388.out 5).trans rfl; have hcz45_6 : w42.cell? ⟨gb388, 6, none⟩ = some (.int .u32 a0_6) := (blk_cell BK388.out 6).trans rfl; have hfz45_0 := blk_frozen BK388.out 0; have hfz45_1 := blk_frozen BK388.out 1; have hfz45_2 := blk_frozen BK388.out 2; have hfz45_3 := blk_frozen BK388.out 3; have hfz45_4 := blk_frozen BK388.out 4; have hfz45_5 := blk_frozen BK388.out 5; have hfz45_6 := blk_frozen BK388.out 6) | ((with_reducible refine gate_callee (f := 9) rfl ?_); refine goesL_ (some 21) rfl rfl Try.func9 (by kernel_rfl) rfl #[] rfl (by (try simp only [List.map_toArray, List.map_cons, List.map_nil]); first | done | rfl | (simp only [List.length_drop, List.length_take]; rfl)) ?_; (with_reducible refine (portreevelaw17_shown.calls k  t390 _ A2.out).mono ?_); rintro e w46 ⟨rfl, hb⟩; refine ⟨_, rfl, ?_⟩; have n0_ := Aside0.mk (blk_below (g := gb388) (o := .cells #[.int .u64 a0_0, .int .u64 a0_1, .int .i64 a0_2, .int .u32 a0_3, .int .u32 a0_4, .int .u32 a0_5, .int .u32 a0_6] 59 (0, 0)) (by (with_reducible repeat (first | refine qN ?_ _ | refine qD ?_ | refine qA ?_ _)); refine blk_far ?_ NB388_389.out _; (with_reducible repeat (first | refine qN ?_ _ | refine qD ?_ | refine qA ?_ _)); refine blk_far ?_ NB388_389.out _; (with_reducible repeat (first | refine qN ?_ _ | refine qD ?_ | refine qA ?_ _)); refine blk_far ?_ NB388_389.out _; (with_reducible repeat (first | refine qN ?_ _ | refine qD ?_ | refine qA ?_ _)); exact BK388.out) hb); have n1_ := Aside0.mk (blk_below (g := gb389) (o := .cells #[.int .u64 a0_0, .int .u64 a0_1, .int .i64 a0_2] 24 (0, 0)) (by (with_reducible repeat (first | refine qN ?_ _ | refine qD ?_ | refine qA ?_ _)); refine blk_put (cs := #[.int .u64 a0_0, .int .u64 a0_1, .int .i64 0]) ?_ 2 _ rfl; (with_reducible repeat (first | refine qN ?_ _ | refine qD ?_ | refine qA ?_ _)); refine blk_put (cs := #[.int .u64 a0_0, .int .u64 0, .int .i64 0]) ?_ 1 _ rfl; (with_reducible repeat (first | refine qN ?_ _ | refine qD ?_ | refine qA ?_ _)); refine blk_put (cs := #[.int .u64 0, .int .u64 0, .int .i64 0]) ?_ 0 _ rfl; (with_reducible repeat (first | refine qN ?_ _ | refine qD ?_ | refine qA ?_ _)); exact BK389.out) hb); have n2_ := Aside0.mk (below_step (by repeat (first | (with_reducible first | exact HB.out | apply pA | apply pN | apply pD | refine pS ?_ GE388.out | refine pS ?_ GE389.out) | exact HB.out)) hb); clear BK388; clear BK389; clear HB; have BK388 := n0_; have BK389 := n1_; have HB := n2_; clear n0_ n1_ n2_; (try clear hb); (try clear hb2); (try clear hk); (try clear hi); have hcz47_0 : w46.cell? ⟨gb389, 0, none⟩ = some (.int .u64 a0_0) := (blk_cell BK389.out 0).trans rfl; have hcz47_1 : w46.cell? ⟨gb389, 1, none⟩ = some (.int .u64 a0_1) := (blk_cell BK389.out 1).trans rfl; have hcz47_2 : w46.cell? ⟨gb389, 2, none⟩ = some (.int .i64 a0_2) := (blk_cell BK389.out 2).trans rfl; have hfz47_0 := blk_frozen BK389.out 0; have hfz47_1 := blk_frozen BK389.out 1; have hfz47_2 := blk_frozen BK389.out 2) | ((with_reducible refine gate_callee (f := 10) rfl ?_); refine goesL_ (some 23) rfl rfl Try.func10 (by kernel_rfl) rfl #[.agg #[.int .u64 a0_0, .int .u64 a0_1, .int .i64 a0_2]] rfl (by (try simp only [List.map_toArray, List.map_cons, List.map_nil]); first | done | rfl | (simp only [List.length_drop, List.length_take]; rfl)) ?_; (with_reducible refine (portreeveref17_Right.calls a0_0 a0_1 a0_2 false _ A3.out).mono ?_); rintro e w48 ⟨rfl, hb⟩; refine ⟨_, rfl, ?_⟩; have n0_ := Aside0.mk (blk_below (g := gb388) (o := .cells #[.int .u64 a0_0, .int .u64 a0_1, .int .i64 a0_2, .int .u32 a0_3, .int .u32 a0_4, .int .u32 a0_5, .int .u32 a0_6] 59 (0, 0)) (by (with_reducible repeat (first | refine qN ?_ _ | refine qD ?_ | refine qA ?_ _)); exact BK388.out) hb); have n1_ := Aside0.mk (blk_below (g := gb389) (o := .cells #[.int .u64 a0_0, .int .u64 a0_1, .int .i64 a0_2] 24 (0, 0)) (by (with_reducible repeat (first | refine qN ?_ _ | refine qD ?_ | refine qA ?_ _)); exact BK389.out) hb); have n2_ := Aside0.mk (below_step (by repeat (first | (with_reducible first | exact HB.out | apply pA | apply pN | apply pD | refine pS ?_ GE388.out | refine pS ?_ GE389.out) | exact HB.out)) hb); clear BK388; clear BK389; clear HB; have BK388 := n0_; have BK389 := n1_; have HB := n2_; clear n0_ n1_ n2_; (try clear hb); (try clear hb2); (try clear hk); (try clear hi)))
    go_ret
    exact ⟨by first | rfl | (simp [errW_none, errW_some] <;> rfl) | (simp [*, errW_none, errW_some] <;> rfl), by repeat (first | (with_reducible first | exact HB.out | apply pA | apply pN | apply pD | refine pS ?_ GE388.out | refine pS ?_ GE389.out) | exact HB.out)⟩

end Go.Proofs.Ytlimlbhhbjaljaa.Q

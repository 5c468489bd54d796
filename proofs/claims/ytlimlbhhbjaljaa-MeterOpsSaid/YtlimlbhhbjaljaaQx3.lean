-- written by this session's own program (wip/tools/myprint.py), over the kit's print
import Derived.Test.YtlimlbhhbjaljaaQx0
namespace Go.Proofs.Ytlimlbhhbjaljaa.Q
open Go.RowKit Go.Proofs.YtlimlbhhbjaljaaW.PrintWords Go.Proofs.YtlimlbhhbjaljaaW.PrintLast Go.Proofs.YtlimlbhhbjaljaaW.PrintMore
open Go.Proofs.YtlimlbhhbjaljaaV
attribute [local go_sem] max2_int min2_int max_two min_two max_three min_three max_four min_four   -- for this text's walks alone
set_option linter.unusedVariables false
set_option linter.unusedSimpArgs false

/-! ### meter_Right: function 11 -/
def meter_Right.f (a0_0 : Int) (a0_1 : Int) (a0_2 : Int) : Option (Bool) := if a0_2 ≥ 0 then (some (decide (a0_2 ≤ 6))) else (some false)
set_option maxHeartbeats 8000000 in
set_option maxRecDepth 100000 in
theorem meter_Right.calls (ac : Int) (ad : Int) (aa : Int) (r : Bool) (w : World) (h : meter_Right.f ac ad aa = some r) :
  Calls Try.prog 11 #[.agg #[.int .u64 ac, .int .u64 ad, .int .i64 aa]] w fun e w' => e = .returned (.bool r) ∧ Below w.heap.size w w' := by
 have hu24 := Try.underlying24
 have HB := Aside0.mk (Below.refl w.heap.size w)
 have H : (if aa ≥ 0 then (some (decide (aa ≤ 6))) else (some false)) = some r := h
 clear h
 by_cases c2 : aa ≥ 0
 ·rw [if_pos c2] at H
  have ah : decide (0 ≤ aa) = true := decide_eq_true c2
  clear c2
  obtain rfl := Option.some.inj H
  go_enter Try.func11, Try.ntmps11
  go_wp2_with (first | ((with_reducible refine gate_dst (N := 1) rfl ?_); refine box_event ?hg (N := 1) ?hd (cs := #[.int .u64 ac, .int .u64 ad, .int .i64 aa]) (t := 24) ?hr ?_; (case hd => rfl); (case hg => rfl); (case hr => first | (go_simp; done) | (go_simp; rfl)); intro ab hg w3 hbox hb; have n0_ := Aside0.mk (below_step (zH HB.out) hb); have n1_ := Aside0.mk (hbox); have n2_ := Aside0.mk ((by rw [hg]; exact (below_size (zH HB.out)) : w.heap.size ≤ ab)); have n3_ := Aside0.mk ((by rw [hg]; exact (below_size (zH HB.out)) : w.heap.size ≤ ab)); clear HB; have HB := n0_; have ae := n1_; have ag := n2_; have af := n3_; clear n0_ n1_ n2_ n3_; clear hb hbox hg; obtain ⟨ai, aj, ak, al, am, an⟩ := bk3 ae.out))
  go_ret
  exact ⟨by first | rfl | (simp [errW_none, errW_some] <;> rfl) | (simp [*, errW_none, errW_some] <;> rfl), by repeat (first | (with_reducible first | exact HB.out | apply pA | apply pN | apply pD | refine pS ?_ af.out) | exact HB.out)⟩
 ·rw [if_neg c2] at H
  have ah : decide (0 ≤ aa) = false := decide_eq_false c2
  clear c2
  obtain rfl := Option.some.inj H
  go_enter Try.func11, Try.ntmps11
  go_wp2_with (first | ((with_reducible refine gate_dst (N := 1) rfl ?_); refine box_event ?hg (N := 1) ?hd (cs := #[.int .u64 ac, .int .u64 ad, .int .i64 aa]) (t := 24) ?hr ?_; (case hd => rfl); (case hg => rfl); (case hr => first | (go_simp; done) | (go_simp; rfl)); intro ab hg w5 hbox hb; have n0_ := Aside0.mk (below_step (zH HB.out) hb); have n1_ := Aside0.mk (hbox); have n2_ := Aside0.mk ((by rw [hg]; exact (below_size (zH HB.out)) : w.heap.size ≤ ab)); have n3_ := Aside0.mk ((by rw [hg]; exact (below_size (zH HB.out)) : w.heap.size ≤ ab)); clear HB; have HB := n0_; have ae := n1_; have ag := n2_; have af := n3_; clear n0_ n1_ n2_ n3_; clear hb hbox hg; obtain ⟨ao, ap, aq, ar, au, av⟩ := bk3 ae.out))
  go_ret
  exact ⟨by first | rfl | (simp [errW_none, errW_some] <;> rfl) | (simp [*, errW_none, errW_some] <;> rfl), by repeat (first | (with_reducible first | exact HB.out | apply pA | apply pN | apply pD | refine pS ?_ af.out) | exact HB.out)⟩

/-! ### meter_New: function 12 -/
def meter_New.f  : Option (Int × Int × Int) := some (0, 0, 6)
set_option maxHeartbeats 8000000 in
set_option maxRecDepth 100000 in
theorem meter_New.calls  (r1 : Int) (r2 : Int) (r3 : Int) (w : World) (h : meter_New.f  = some (r1, r2, r3)) :
    Calls Try.prog 12 #[] w fun e w' => e = .returned (.agg #[.int .u64 r1, .int .u64 r2, .int .i64 r3]) ∧ Below w.heap.size w w' := by
  have hu24 := Try.underlying24
  have HB := Aside0.mk (Below.refl w.heap.size w)
  have H : (some (0, 0, 6)) = some (r1, r2, r3) := h
  clear h
  simp only [Option.some.injEq, Prod.mk.injEq] at H
  obtain ⟨rfl, rfl, rfl⟩ := H
  go_enter Try.func12, Try.ntmps12
  go_wp2_with (first | ((with_reducible refine gate_dst (N := 0) rfl ?_); refine box_event ?hg (N := 0) ?hd (cs := #[.int .u64 0, .int .u64 0, .int .i64 0]) (t := 24) ?hr ?_; (case hd => rfl); (case hg => rfl); (case hr => first | (go_simp; done) | (go_simp; rfl)); intro ab hg w1 hbox hb; have n0_ := Aside0.mk (below_step (by repeat (first | (with_reducible first | exact HB.out | apply pA | apply pN | apply pD) | exact HB.out)) hb); have n1_ := Aside0.mk (hbox); have n2_ := Aside0.mk ((by rw [hg]; exact (below_size (by repeat (first | (with_reducible first | exact HB.out | apply pA | apply pN | apply pD) | exact HB.out))) : w.heap.size ≤ ab)); have n3_ := Aside0.mk ((by rw [hg]; exact (below_size (by repeat (first | (with_reducible first | exact HB.out | apply pA | apply pN | apply pD) | exact HB.out))) : w.heap.size ≤ ab)); clear HB; have HB := n0_; have aa := n1_; have aj := n2_; have ac := n3_; clear n0_ n1_ n2_ n3_; clear hb hbox hg; have ad : w1.cell? ⟨ab, 0, none⟩ = some (.int .u64 0) := (blk_cell aa.out 0).trans rfl; have ae : w1.cell? ⟨ab, 1, none⟩ = some (.int .u64 0) := (blk_cell aa.out 1).trans rfl; have af : w1.cell? ⟨ab, 2, none⟩ = some (.int .i64 0) := (blk_cell aa.out 2).trans rfl; have ag := blk_frozen aa.out 0; have ah := blk_frozen aa.out 1; have ai := blk_frozen aa.out 2))
  refine bodyPost_ret (results_cell_row rfl _ _ ab 24 #[.int .u64 0, .int .u64 0, .int .i64 6] (0, 0) _ rfl (by (with_reducible repeat (first | refine qN ?_ _ | refine qD ?_ | refine qA ?_ _)); refine blk_put (cs := #[.int .u64 0, .int .u64 0, .int .i64 0]) ?_ 2 _ rfl; (with_reducible repeat (first | refine qN ?_ _ | refine qD ?_ | refine qA ?_ _)); refine blk_put (cs := #[.int .u64 0, .int .u64 0, .int .i64 0]) ?_ 1 _ rfl; (with_reducible repeat (first | refine qN ?_ _ | refine qD ?_ | refine qA ?_ _)); refine blk_put (cs := #[.int .u64 0, .int .u64 0, .int .i64 0]) ?_ 0 _ rfl; (with_reducible repeat (first | refine qN ?_ _ | refine qD ?_ | refine qA ?_ _)); exact aa.out) Try.underlying24 rfl (by kernel_rfl)) rfl ?_
  exact ⟨by first | rfl | (simp [errW_none, errW_some] <;> rfl) | (simp [*, errW_none, errW_some] <;> rfl), by repeat (first | (with_reducible first | exact HB.out | apply pA | apply pN | apply pD | refine pS ?_ ac.out) | exact HB.out)⟩

/-! ### meter_Tick: function 14 -/
def meter_Tick.f (a0_0 : Int) (a0_1 : Int) (a0_2 : Int) : Option (Int × Int × Int × Bool) := if a0_2 = 0 then (some (a0_0, a0_1, a0_2, false)) else (if (wrap64 (a0_2 - 1)) > 0 then (some (a0_0, a0_1, wrap64 (a0_2 - 1), false)) else (some (a0_0, a0_1, 6, true)))
set_option maxHeartbeats 8000000 in
set_option maxRecDepth 100000 in
theorem meter_Tick.calls (ac : Int) (ae : Int) (ab : Int) (r1 : Int) (r2 : Int) (r3 : Int) (r4 : Bool) (w : World) (h : meter_Tick.f ac ae ab = some (r1, r2, r3, r4)) :
  Calls Try.prog 14 #[.agg #[.int .u64 ac, .int .u64 ae, .int .i64 ab]] w fun e w' => e = .returned (.tuple #[.agg #[.int .u64 r1, .int .u64 r2, .int .i64 r3], .bool r4]) ∧ Below w.heap.size w w' := by
 have hu24 := Try.underlying24
 have HB := Aside0.mk (Below.refl w.heap.size w)
 have H : (if ab = 0 then (some (ac, ae, ab, false)) else (if (wrap64 (ab - 1)) > 0 then (some (ac, ae, wrap64 (ab - 1), false)) else (some (ac, ae, 6, true)))) = some (r1, r2, r3, r4) := h
 clear h
 by_cases c2 : ab = 0
 ·rw [if_pos c2] at H
  have an : (ab == 0) = true := beq_iff_eq.mpr c2
  have ao : (ab != 0) = false := bne_eq_false_iff_eq.mpr c2
  clear c2
  simp only [Option.some.injEq, Prod.mk.injEq] at H
  obtain ⟨rfl, rfl, rfl, rfl⟩ := H
  go_enter Try.func14, Try.ntmps14
  go_wp2_with (first | ((with_reducible refine gate_dst (N := 1) rfl ?_); refine box_event ?hg (N := 1) ?hd (cs := #[.int .u64 ac, .int .u64 ae, .int .i64 ab]) (t := 24) ?hr ?_; (case hd => rfl); (case hg => rfl); (case hr => first | (go_simp; done) | (go_simp; rfl)); intro aa hg w3 hbox hb; have n0_ := Aside0.mk (below_step (zH HB.out) hb); have n1_ := Aside0.mk (hbox); have n2_ := Aside0.mk ((by rw [hg]; exact (below_size (zH HB.out)) : w.heap.size ≤ aa)); have n3_ := Aside0.mk ((by rw [hg]; exact (below_size (zH HB.out)) : w.heap.size ≤ aa)); clear HB; have HB := n0_; have ad := n1_; have al := n2_; have ah := n3_; clear n0_ n1_ n2_ n3_; clear hb hbox hg) | ((with_reducible refine gate_dst (N := 2) rfl ?_); refine box_event ?hg (N := 2) ?hd (cs := #[.int .u64 0, .int .u64 0, .int .i64 0]) (t := 24) ?hr ?_; (case hd => rfl); (case hg => rfl); (case hr => first | (go_simp; done) | (go_simp; rfl)); intro af hg w4 hbox hb; have n0_ := Aside0.mk (blk_below (g := aa) (o := .cells #[.int .u64 ac, .int .u64 ae, .int .i64 ab] 24 (0, 0)) (zB ad.out) hb); have n1_ := Aside0.mk (below_step (by repeat (first | (with_reducible first | exact HB.out | apply pA | apply pN | apply pD | refine pS ?_ ah.out) | exact HB.out)) hb); have n2_ := Aside0.mk (hbox); have n3_ := Aside0.mk ((by rw [hg]; exact (below_size (by repeat (first | (with_reducible first | exact HB.out | apply pA | apply pN | apply pD | refine pS ?_ ah.out) | exact HB.out))) : w.heap.size ≤ af)); have n4_ := Aside0.mk ((by rw [hg]; exact (below_size (by repeat (first | (with_reducible first | exact HB.out | apply pA | apply pN | apply pD | refine pS ?_ ah.out) | exact HB.out))) : w.heap.size ≤ af)); have n5_ := Aside0.mk ((by rw [hg]; exact Nat.ne_of_lt (blk_lt (g := aa) (o := .cells #[.int .u64 ac, .int .u64 ae, .int .i64 ab] 24 (0, 0)) (zB ad.out)) : aa ≠ af)); have n6_ := Aside0.mk ((by rw [hg]; exact Nat.ne_of_gt (blk_lt (g := aa) (o := .cells #[.int .u64 ac, .int .u64 ae, .int .i64 ab] 24 (0, 0)) (zB ad.out)) : af ≠ aa)); clear ad; clear HB; have ad := n0_; have HB := n1_; have aj := n2_; have am := n3_; have ak := n4_; have ai := n5_; have ag := n6_; clear n0_ n1_ n2_ n3_ n4_ n5_ n6_; clear hb hbox hg; have a8 := ai.out; have a9 := ag.out; obtain ⟨aQ, aR, aS, aT, aU, aV⟩ := bk3 ad.out; obtain ⟨aW, aX, aY, aZ, a2, a3⟩ := bk3 aj.out))
  refine bodyPost_ret (results_ct rfl _ _ af 24 #[.int .u64 ac, .int .u64 ae, .int .i64 ab] (0, 0) _ rfl (by (with_reducible repeat (first | refine qN ?_ _ | refine qD ?_ | refine qA ?_ _)); refine blk_put (cs := #[.int .u64 ac, .int .u64 ae, .int .i64 0]) ?_ 2 _ rfl; (with_reducible repeat (first | refine qN ?_ _ | refine qD ?_ | refine qA ?_ _)); refine blk_put (cs := #[.int .u64 ac, .int .u64 0, .int .i64 0]) ?_ 1 _ rfl; (with_reducible repeat (first | refine qN ?_ _ | refine qD ?_ | refine qA ?_ _)); refine blk_put (cs := #[.int .u64 0, .int .u64 0, .int .i64 0]) ?_ 0 _ rfl; (with_reducible repeat (first | refine qN ?_ _ | refine qD ?_ | refine qA ?_ _)); exact aj.out) Try.underlying24 rfl (by kernel_rfl)) rfl ?_
  exact ⟨by first | rfl | (simp [errW_none, errW_some] <;> rfl) | (simp [*, errW_none, errW_some] <;> rfl), by repeat (first | (with_reducible first | exact HB.out | apply pA | apply pN | apply pD | refine pS ?_ ah.out | refine pS ?_ ak.out) | exact HB.out)⟩
 ·rw [if_neg c2] at H
  have an : (ab == 0) = false := beq_eq_false_iff_ne.mpr c2
  have ao : (ab != 0) = true := bne_iff_ne.mpr c2
  by_cases c8 : (wrap64 (ab - 1)) > 0
  ·rw [if_pos c8] at H
   have ap : decide (0 < (wrap64 (ab - 1))) = true := decide_eq_true c8
   clear c8
   simp only [Option.some.injEq, Prod.mk.injEq] at H
   obtain ⟨rfl, rfl, rfl, rfl⟩ := H
   go_enter Try.func14, Try.ntmps14
   go_wp2_with (first | ((with_reducible refine gate_dst (N := 1) rfl ?_); refine box_event ?hg (N := 1) ?hd (cs := #[.int .u64 ac, .int .u64 ae, .int .i64 ab]) (t := 24) ?hr ?_; (case hd => rfl); (case hg => rfl); (case hr => first | (go_simp; done) | (go_simp; rfl)); intro aa hg w9 hbox hb; have n0_ := Aside0.mk (below_step (zH HB.out) hb); have n1_ := Aside0.mk (hbox); have n2_ := Aside0.mk ((by rw [hg]; exact (below_size (zH HB.out)) : w.heap.size ≤ aa)); have n3_ := Aside0.mk ((by rw [hg]; exact (below_size (zH HB.out)) : w.heap.size ≤ aa)); clear HB; have HB := n0_; have ad := n1_; have al := n2_; have ah := n3_; clear n0_ n1_ n2_ n3_; clear hb hbox hg) | ((with_reducible refine gate_dst (N := 2) rfl ?_); refine box_event ?hg (N := 2) ?hd (cs := #[.int .u64 0, .int .u64 0, .int .i64 0]) (t := 24) ?hr ?_; (case hd => rfl); (case hg => rfl); (case hr => first | (go_simp; done) | (go_simp; rfl)); intro af hg w10 hbox hb; have n0_ := Aside0.mk (blk_below (g := aa) (o := .cells #[.int .u64 ac, .int .u64 ae, .int .i64 ab] 24 (0, 0)) (zB ad.out) hb); have n1_ := Aside0.mk (below_step (by repeat (first | (with_reducible first | exact HB.out | apply pA | apply pN | apply pD | refine pS ?_ ah.out) | exact HB.out)) hb); have n2_ := Aside0.mk (hbox); have n3_ := Aside0.mk ((by rw [hg]; exact (below_size (by repeat (first | (with_reducible first | exact HB.out | apply pA | apply pN | apply pD | refine pS ?_ ah.out) | exact HB.out))) : w.heap.size ≤ af)); have n4_ := Aside0.mk ((by rw [hg]; exact (below_size (by repeat (first | (with_reducible first | exact HB.out | apply pA | apply pN | apply pD | refine pS ?_ ah.out) | exact HB.out))) : w.heap.size ≤ af)); have n5_ := Aside0.mk ((by rw [hg]; exact Nat.ne_of_lt (blk_lt (g := aa) (o := .cells #[.int .u64 ac, .int .u64 ae, .int .i64 ab] 24 (0, 0)) (zB ad.out)) : aa ≠ af)); have n6_ := Aside0.mk ((by rw [hg]; exact Nat.ne_of_gt (blk_lt (g := aa) (o := .cells #[.int .u64 ac, .int .u64 ae, .int .i64 ab] 24 (0, 0)) (zB ad.out)) : af ≠ aa)); clear ad; clear HB; have ad := n0_; have HB := n1_; have aj := n2_; have am := n3_; have ak := n4_; have ai := n5_; have ag := n6_; clear n0_ n1_ n2_ n3_ n4_ n5_ n6_; clear hb hbox hg; have a4 := ai.out; have a5 := ag.out; obtain ⟨aq, ar, au, av, aw, ax⟩ := bk3 ad.out; obtain ⟨ay, az, aA, aB, aC, aD⟩ := bk3 aj.out))
   refine bodyPost_ret (results_ct rfl _ _ af 24 #[.int .u64 ac, .int .u64 ae, .int .i64 (wrap64 (ab - 1))] (0, 0) _ rfl (by (with_reducible repeat (first | refine qN ?_ _ | refine qD ?_ | refine qA ?_ _)); refine blk_put (cs := #[.int .u64 ac, .int .u64 ae, .int .i64 0]) ?_ 2 _ rfl; (with_reducible repeat (first | refine qN ?_ _ | refine qD ?_ | refine qA ?_ _)); refine blk_put (cs := #[.int .u64 ac, .int .u64 0, .int .i64 0]) ?_ 1 _ rfl; (with_reducible repeat (first | refine qN ?_ _ | refine qD ?_ | refine qA ?_ _)); refine blk_put (cs := #[.int .u64 0, .int .u64 0, .int .i64 0]) ?_ 0 _ rfl; (with_reducible repeat (first | refine qN ?_ _ | refine qD ?_ | refine qA ?_ _)); refine blk_far ?_ ag.out _; (with_reducible repeat (first | refine qN ?_ _ | refine qD ?_ | refine qA ?_ _)); exact aj.out) Try.underlying24 rfl (by kernel_rfl)) rfl ?_
   exact ⟨by first | rfl | (simp [errW_none, errW_some] <;> rfl) | (simp [*, errW_none, errW_some] <;> rfl), by repeat (first | (with_reducible first | exact HB.out | apply pA | apply pN | apply pD | refine pS ?_ ah.out | refine pS ?_ ak.out) | exact HB.out)⟩
  ·rw [if_neg c8] at H
   have ap : decide (0 < (wrap64 (ab - 1))) = false := decide_eq_false c8
   clear c8
   simp only [Option.some.injEq, Prod.mk.injEq] at H
   obtain ⟨rfl, rfl, rfl, rfl⟩ := H
   go_enter Try.func14, Try.ntmps14
   go_wp2_with (first | ((with_reducible refine gate_dst (N := 1) rfl ?_); refine box_event ?hg (N := 1) ?hd (cs := #[.int .u64 ac, .int .u64 ae, .int .i64 ab]) (t := 24) ?hr ?_; (case hd => rfl); (case hg => rfl); (case hr => first | (go_simp; done) | (go_simp; rfl)); intro aa hg w14 hbox hb; have n0_ := Aside0.mk (below_step (zH HB.out) hb); have n1_ := Aside0.mk (hbox); have n2_ := Aside0.mk ((by rw [hg]; exact (below_size (zH HB.out)) : w.heap.size ≤ aa)); have n3_ := Aside0.mk ((by rw [hg]; exact (below_size (zH HB.out)) : w.heap.size ≤ aa)); clear HB; have HB := n0_; have ad := n1_; have al := n2_; have ah := n3_; clear n0_ n1_ n2_ n3_; clear hb hbox hg) | ((with_reducible refine gate_dst (N := 2) rfl ?_); refine box_event ?hg (N := 2) ?hd (cs := #[.int .u64 0, .int .u64 0, .int .i64 0]) (t := 24) ?hr ?_; (case hd => rfl); (case hg => rfl); (case hr => first | (go_simp; done) | (go_simp; rfl)); intro af hg w15 hbox hb; have n0_ := Aside0.mk (blk_below (g := aa) (o := .cells #[.int .u64 ac, .int .u64 ae, .int .i64 ab] 24 (0, 0)) (zB ad.out) hb); have n1_ := Aside0.mk (below_step (by repeat (first | (with_reducible first | exact HB.out | apply pA | apply pN | apply pD | refine pS ?_ ah.out) | exact HB.out)) hb); have n2_ := Aside0.mk (hbox); have n3_ := Aside0.mk ((by rw [hg]; exact (below_size (by repeat (first | (with_reducible first | exact HB.out | apply pA | apply pN | apply pD | refine pS ?_ ah.out) | exact HB.out))) : w.heap.size ≤ af)); have n4_ := Aside0.mk ((by rw [hg]; exact (below_size (by repeat (first | (with_reducible first | exact HB.out | apply pA | apply pN | apply pD | refine pS ?_ ah.out) | exact HB.out))) : w.heap.size ≤ af)); have n5_ := Aside0.mk ((by rw [hg]; exact Nat.ne_of_lt (blk_lt (g := aa) (o := .cells #[.int .u64 ac, .int .u64 ae, .int .i64 ab] 24 (0, 0)) (zB ad.out)) : aa ≠ af)); have n6_ := Aside0.mk ((by rw [hg]; exact Nat.ne_of_gt (blk_lt (g := aa) (o := .cells #[.int .u64 ac, .int .u64 ae, .int .i64 ab] 24 (0, 0)) (zB ad.out)) : af ≠ aa)); clear ad; clear HB; have ad := n0_; have HB := n1_; have aj := n2_; have am := n3_; have ak := n4_; have ai := n5_; have ag := n6_; clear n0_ n1_ n2_ n3_ n4_ n5_ n6_; clear hb hbox hg; have a6 := ai.out; have a7 := ag.out; obtain ⟨aE, aF, aG, aH, aI, aJ⟩ := bk3 ad.out; obtain ⟨aK, aL, aM, aN, aO, aP⟩ := bk3 aj.out))
   refine bodyPost_ret (results_ct rfl _ _ af 24 #[.int .u64 ac, .int .u64 ae, .int .i64 6] (0, 0) _ rfl (by (with_reducible repeat (first | refine qN ?_ _ | refine qD ?_ | refine qA ?_ _)); refine blk_put (cs := #[.int .u64 ac, .int .u64 ae, .int .i64 0]) ?_ 2 _ rfl; (with_reducible repeat (first | refine qN ?_ _ | refine qD ?_ | refine qA ?_ _)); refine blk_put (cs := #[.int .u64 ac, .int .u64 0, .int .i64 0]) ?_ 1 _ rfl; (with_reducible repeat (first | refine qN ?_ _ | refine qD ?_ | refine qA ?_ _)); refine blk_put (cs := #[.int .u64 0, .int .u64 0, .int .i64 0]) ?_ 0 _ rfl; (with_reducible repeat (first | refine qN ?_ _ | refine qD ?_ | refine qA ?_ _)); refine blk_far ?_ ag.out _; (with_reducible repeat (first | refine qN ?_ _ | refine qD ?_ | refine qA ?_ _)); refine blk_far ?_ ag.out _; (with_reducible repeat (first | refine qN ?_ _ | refine qD ?_ | refine qA ?_ _)); exact aj.out) Try.underlying24 rfl (by kernel_rfl)) rfl ?_
   exact ⟨by first | rfl | (simp [errW_none, errW_some] <;> rfl) | (simp [*, errW_none, errW_some] <;> rfl), by repeat (first | (with_reducible first | exact HB.out | apply pA | apply pN | apply pD | refine pS ?_ ah.out | refine pS ?_ ak.out) | exact HB.out)⟩

/-! ### meter_Count_1: function 26 -/
def meter_Count_1.f (a0 : Int) (a1 : Int) : Option (Int) := if (IntKind.u64.wrap (mx a1 0)) > (IntKind.u64.wrap (18446744073709551615 - a0)) then (some 18446744073709551615) else (some (IntKind.u64.wrap (a0 + (IntKind.u64.wrap (mx a1 0)))))
set_option maxHeartbeats 8000000 in
set_option maxRecDepth 100000 in
theorem meter_Count_1.calls (a0 : Int) (a1 : Int) (r : Int) (w : World) (h : meter_Count_1.f a0 a1 = some r) :
    Calls Try.prog 26 #[.int .u64 a0, .int .i64 a1] w fun e w' => e = .returned (.int .u64 r) ∧ Below w.heap.size w w' := by
  have HB := Aside0.mk (Below.refl w.heap.size w)
  have H : (if (IntKind.u64.wrap (mx a1 0)) > (IntKind.u64.wrap (18446744073709551615 - a0)) then (some 18446744073709551615) else (some (IntKind.u64.wrap (a0 + (IntKind.u64.wrap (mx a1 0)))))) = some r := h
  clear h
  obtain ⟨ji3, hji3⟩ : ∃ j_ : Int, (mx a1 0) = j_ := ⟨_, rfl⟩
  replace H : (if (IntKind.u64.wrap (ji3)) > (IntKind.u64.wrap (18446744073709551615 - a0)) then (some 18446744073709551615) else (some (IntKind.u64.wrap (a0 + (IntKind.u64.wrap (ji3)))))) = some r := by first | (rw [hji3] at H; exact H) | (simp only [hji3] at H ⊢; exact H)
  (try (have hji3l : 0 ≤ ji3 := by (rw [← hji3]; unfold mx; (repeat' split) <;> omega)))
  (try (have hji3m : 0 ≤ ji3 := by omega))
  have hji3_ : (if a1 < 0 then 0 else a1) = ji3 := hji3
  by_cases c4 : (IntKind.u64.wrap (ji3)) > (IntKind.u64.wrap (18446744073709551615 - a0))
  · rw [if_pos c4] at H
    have aa : decide ((IntKind.u64.wrap (18446744073709551615 - a0)) < (IntKind.u64.wrap (ji3))) = true := decide_eq_true c4
    clear c4
    obtain rfl := Option.some.inj H
    go_enter Try.func26, Try.ntmps26
    go_wp2
    go_ret
    exact ⟨by first | rfl | (simp [errW_none, errW_some] <;> rfl) | (simp only [← hji3]; first | rfl | (simp [errW_none, errW_some] <;> rfl)) | (simp [*, errW_none, errW_some] <;> rfl), by repeat (first | (with_reducible first | exact HB.out | apply pA | apply pN | apply pD) | exact HB.out)⟩
  · rw [if_neg c4] at H
    have aa : decide ((IntKind.u64.wrap (18446744073709551615 - a0)) < (IntKind.u64.wrap (ji3))) = false := decide_eq_false c4
    clear c4
    obtain rfl := Option.some.inj H
    go_enter Try.func26, Try.ntmps26
    go_wp2
    go_ret
    exact ⟨by first | rfl | (simp [errW_none, errW_some] <;> rfl) | (simp only [← hji3]; first | rfl | (simp [errW_none, errW_some] <;> rfl)) | (simp [*, errW_none, errW_some] <;> rfl), by repeat (first | (with_reducible first | exact HB.out | apply pA | apply pN | apply pD) | exact HB.out)⟩

end Go.Proofs.Ytlimlbhhbjaljaa.Q

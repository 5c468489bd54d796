-- written by this session's own program (wip/tools/myprint.py), over the kit's print
import Derived.Test.YtlimlbhhbjaljaaQx0
import Derived.Test.YtlimlbhhbjaljaaQx1
import Derived.Test.YtlimlbhhbjaljaaQx2
import Derived.Test.YtlimlbhhbjaljaaQx3
import Derived.Test.YtlimlbhhbjaljaaQx4
namespace Go.Proofs.Ytlimlbhhbjaljaa.Q
open Go.RowKit Go.Proofs.YtlimlbhhbjaljaaW.PrintWords Go.Proofs.YtlimlbhhbjaljaaW.PrintLast Go.Proofs.YtlimlbhhbjaljaaW.PrintMore
open Go.Proofs.YtlimlbhhbjaljaaV
attribute [local go_sem] max2_int min2_int max_two min_two max_three min_three max_four min_four   -- for this text's walks alone
set_option linter.unusedVariables false
set_option linter.unusedSimpArgs false

attribute [local go_sem high] eqA24 eqA35
/-! ### portreevelaw17_MeterTells: function 3 -/
def portreevelaw17_MeterTells.j0 : Nat → Int → Int → Int → Int → Bool → Bool → Bool → Int → Int → Int → Option (Bool)
  | 0, _, _, _, _, _, _, _, _, _, _ => none
  | k + 1, x4, x5, x6, x7, x8, x9, x35, x159000, x159001, x159002 => if x35 = true then (some false) else (if x9 = true then ((meter_Tick.f x159000 x159001 x159002).bind fun bt168 => ((portreeveref17_Tick.f x159000 x159001 x159002).bind fun bt173 => (if x8 = true then ((meter_Count.f x159000 x159001 x159002 x4 x5).bind fun bt178 => ((portreeveref17_Count.f x159000 x159001 x159002 x4 x5).bind fun bt181 => (if (bt178.1 == bt181.1 && (bt178.2.1 == bt181.2.1 && (bt178.2.2 == bt181.2.2))) = true then (if (bt168.1 == bt173.1 && (bt168.2.1 == bt173.2.1 && (bt168.2.2.1 == bt173.2.2.1))) = true then (if (bt168.2.2.2 == bt173.2.2.2) = true then ((meter_Note.f x159000 x159001 x159002 x6).bind fun bt184 => ((portreeveref17_Note.f x159000 x159001 x159002 x6).bind fun bt193 => (if (bt184.1 == bt193.1 && (bt184.2.1 == bt193.2.1 && (bt184.2.2.1 == bt193.2.2.1 && (bt184.2.2.2.1 == bt193.2.2.2.1 && (bt184.2.2.2.2.1.toList == bt193.2.2.2.2.1.toList && (bt184.2.2.2.2.2.1 == bt193.2.2.2.2.2.1 && (bt184.2.2.2.2.2.2.1 == bt193.2.2.2.2.2.2.1 && (bt184.2.2.2.2.2.2.2.1 == bt193.2.2.2.2.2.2.2.1 && (bt184.2.2.2.2.2.2.2.2 == bt193.2.2.2.2.2.2.2.2))))))))) = true then ((meter_Stop.f x159000 x159001 x159002 x6 x7).bind fun bt202 => ((portreeveref17_Stop.f x159000 x159001 x159002 x6 x7).bind fun bt211 => (some (bt202.1 == bt211.1 && (bt202.2.1 == bt211.2.1 && (bt202.2.2.1 == bt211.2.2.1 && (bt202.2.2.2.1 == bt211.2.2.2.1 && (bt202.2.2.2.2.1.toList == bt211.2.2.2.2.1.toList && (bt202.2.2.2.2.2.1 == bt211.2.2.2.2.2.1 && (bt202.2.2.2.2.2.2.1 == bt211.2.2.2.2.2.2.1 && (bt202.2.2.2.2.2.2.2.1 == bt211.2.2.2.2.2.2.2.1 && (bt202.2.2.2.2.2.2.2.2 == bt211.2.2.2.2.2.2.2.2)))))))))))) else (some false)))) else (some false)) else (some false)) else (some false)))) else (some false)))) else (some x8))
def portreevelaw17_MeterTells.f (k : Nat) (a0_0 : Int) (a0_1 : Int) (a0_2 : Int) (a0_3 : Int) (a0_4 : Int) (a0_5 : Int) (a0_6 : Int) : Option (Bool) := (portreevelaw17_shown.f k).bind fun t159 => ((portreeveref17_Right.f a0_0 a0_1 a0_2).bind fun t160 => ((meter_Right.f a0_0 a0_1 a0_2).bind fun t161 => (if (t161 != t160) = true then (portreevelaw17_MeterTells.j0 k a0_3 a0_4 a0_5 a0_6 t159 t160 true a0_0 a0_1 a0_2) else ((meter_New.f).bind fun bt162 => ((portreeveref17_New.f).bind fun bt165 => (portreevelaw17_MeterTells.j0 k a0_3 a0_4 a0_5 a0_6 t159 t160 (!(bt162.1 == bt165.1) || (!(bt162.2.1 == bt165.2.1) || (!(bt162.2.2 == bt165.2.2)))) a0_0 a0_1 a0_2))))))
theorem portreevelaw17_MeterTells.mono_l : ∀ k, (∀ y0 y1 y2 y3 y4 y5 y6 y7 y8 y9, LeO (portreevelaw17_MeterTells.j0 k y0 y1 y2 y3 y4 y5 y6 y7 y8 y9) (portreevelaw17_MeterTells.j0 (k + 1) y0 y1 y2 y3 y4 y5 y6 y7 y8 y9))
  | 0 => fun _ _ _ _ _ _ _ _ _ _ r h => by simp [portreevelaw17_MeterTells.j0] at h
  | k + 1 => by
    have ih0 := portreevelaw17_MeterTells.mono_l k
    · intro y0 y1 y2 y3 y4 y5 y6 y7 y8 y9
      unfold portreevelaw17_MeterTells.j0
      repeat' first
      | (with_reducible exact ih0 _ _ _ _ _ _ _ _ _ _)
      | (with_reducible exact portreevelaw17_shown.mono _)
      | (with_reducible exact LeO.refl _)
      | (with_reducible exact LeO.none _)
      | (with_reducible refine LeO.ite ?_ ?_)
      | (with_reducible refine LeO.bind ?_ (fun _ => ?_))
      | exact ih0 _ _ _ _ _ _ _ _ _ _
      | exact portreevelaw17_shown.mono _
      | exact LeO.none _
      | refine LeO.ite ?_ ?_
      | refine LeO.bind ?_ (fun _ => ?_)
theorem portreevelaw17_MeterTells.mono : ∀ a0 a1 a2 a3 a4 a5 a6 k, LeO (portreevelaw17_MeterTells.f k a0 a1 a2 a3 a4 a5 a6) (portreevelaw17_MeterTells.f (k + 1) a0 a1 a2 a3 a4 a5 a6) := by
  intro a0 a1 a2 a3 a4 a5 a6 k
  have ih0 := portreevelaw17_MeterTells.mono_l k
  unfold portreevelaw17_MeterTells.f
  repeat' first
      | (with_reducible exact ih0 _ _ _ _ _ _ _ _ _ _)
      | (with_reducible exact portreevelaw17_shown.mono _)
      | (with_reducible exact LeO.refl _)
      | (with_reducible exact LeO.none _)
      | (with_reducible refine LeO.ite ?_ ?_)
      | (with_reducible refine LeO.bind ?_ (fun _ => ?_))
      | exact ih0 _ _ _ _ _ _ _ _ _ _
      | exact portreevelaw17_shown.mono _
      | exact LeO.none _
      | refine LeO.ite ?_ ?_
      | refine LeO.bind ?_ (fun _ => ?_)
def portreevelaw17_MeterTells.T14 : Bool × List (List Nat × List Nat) := (true, [([], []), ([0], [0]), ([1], [1]), ([1], [1]), ([1], [1]), ([2, 3, 4, 1, 1], [1, 2, 3, 4]), ([1], [1]), ([1], [1]), ([1], [1]), ([6, 7, 8, 5, 1], [1, 6, 7, 8]), ([5, 9, 1], [1, 5, 9]), ([1, 10], [1, 10]), ([11, 9], [11]), ([12], [12]), ([12], [12]), ([13, 14, 12], [12, 13, 14]), ([12, 15], [12, 15]), ([16, 12], [16]), ([17], [17]), ([17], [17]), ([18, 19, 17], [17, 18, 19]), ([17, 20], [17, 20]), ([21, 17], [21]), ([22], [22]), ([22], [22]), ([23, 24, 22, 22], [22, 23, 24]), ([22], [22]), ([22], [22]), ([26, 27, 25, 22], [22, 26, 27]), ([25, 28, 22], [22, 25, 28]), ([22, 29], [22, 29]), ([30, 28], [30]), ([31], [31]), ([31], [31]), ([31], [31]), ([32, 33, 34, 31, 31], [31, 32, 33, 34]), ([31], [31]), ([31], [31]), ([31], [31]), ([36, 37, 38, 35, 31], [31, 36, 37, 38]), ([35, 39, 31], [31, 35, 39]), ([31, 40], [31, 40]), ([41, 39, 0, 1, 2, 3, 4, 5, 6, 7, 8, 9, 10, 11, 12, 13, 14, 15, 16, 17, 18, 19, 20, 21, 22, 23, 24, 25, 26, 27, 28, 29, 30, 31, 32, 33, 34, 35, 36, 37, 38, 39, 40, 41], [41])])
def portreevelaw17_MeterTells.B14 : List Nat := [0, 1, 3, 3, 3, 31, 3, 3, 3, 511, 1023, 2047, 4095, 8191, 8191, 32767, 65535, 131071, 262143, 262143, 1048575, 2097151, 4194303, 8388607, 8388607, 33554431, 8388607, 8388607, 268435455, 536870911, 1073741823, 2147483647, 4294967295, 4294967295, 4294967295, 34359738367, 4294967295, 4294967295, 4294967295, 549755813887, 1099511627775, 2199023255551, 4398046511103]
theorem portreevelaw17_MeterTells.tab14 : rtab .any (opsOf Try.f3 14) = portreevelaw17_MeterTells.T14 := by kernel_rfl
theorem portreevelaw17_MeterTells.bits14 : waitsOk portreevelaw17_MeterTells.T14.2 portreevelaw17_MeterTells.B14 = true := by kernel_rfl
set_option maxHeartbeats 8000000 in
set_option maxRecDepth 100000 in
theorem portreevelaw17_MeterTells.calls (k : Nat) (a0_0 : Int) (a0_1 : Int) (a0_2 : Int) (a0_3 : Int) (a0_4 : Int) (a0_5 : Int) (a0_6 : Int) (r : Bool) (w : World) (hlaw_ : Aside0 (r = true)) (h : portreevelaw17_MeterTells.f k a0_0 a0_1 a0_2 a0_3 a0_4 a0_5 a0_6 = some r) :
    Calls Try.prog 3 #[.agg #[.int .u64 a0_0, .int .u64 a0_1, .int .i64 a0_2, .int .i64 a0_3, .int .i64 a0_4, .int .i64 a0_5, .int .i64 a0_6]] w fun e w' => e = .returned (.bool r) ∧ Below w.heap.size w w' := by
  have hu26 := Try.underlying26
  have hu24 := Try.underlying24
  have HB := Aside0.mk (Below.refl w.heap.size w)
  have H : ((portreevelaw17_shown.f k).bind fun t159 => ((portreeveref17_Right.f a0_0 a0_1 a0_2).bind fun t160 => ((meter_Right.f a0_0 a0_1 a0_2).bind fun t161 => (if (t161 != t160) = true then (portreevelaw17_MeterTells.j0 k a0_3 a0_4 a0_5 a0_6 t159 t160 true a0_0 a0_1 a0_2) else ((meter_New.f).bind fun bt162 => ((portreeveref17_New.f).bind fun bt165 => (portreevelaw17_MeterTells.j0 k a0_3 a0_4 a0_5 a0_6 t159 t160 (!(bt162.1 == bt165.1) || (!(bt162.2.1 == bt165.2.1) || (!(bt162.2.2 == bt165.2.2)))) a0_0 a0_1 a0_2))))))) = some r := h
  clear h
  replace H := Option.bind_eq_some_iff.mp H
  obtain ⟨t159, A20, H⟩ := H
  replace H : ((portreeveref17_Right.f a0_0 a0_1 a0_2).bind fun t160 => ((meter_Right.f a0_0 a0_1 a0_2).bind fun t161 => (if (t161 != t160) = true then (portreevelaw17_MeterTells.j0 k a0_3 a0_4 a0_5 a0_6 t159 t160 true a0_0 a0_1 a0_2) else ((meter_New.f).bind fun bt162 => ((portreeveref17_New.f).bind fun bt165 => (portreevelaw17_MeterTells.j0 k a0_3 a0_4 a0_5 a0_6 t159 t160 (!(bt162.1 == bt165.1) || (!(bt162.2.1 == bt165.2.1) || (!(bt162.2.2 == bt165.2.2)))) a0_0 a0_1 a0_2)))))) = some r := H
  have A2 := Aside0.mk A20
  clear A20
  replace H := Option.bind_eq_some_iff.mp H
  obtain ⟨t160, A30, H⟩ := H
  replace H : ((meter_Right.f a0_0 a0_1 a0_2).bind fun t161 => (if (t161 != t160) = true then (portreevelaw17_MeterTells.j0 k a0_3 a0_4 a0_5 a0_6 t159 t160 true a0_0 a0_1 a0_2) else ((meter_New.f).bind fun bt162 => ((portreeveref17_New.f).bind fun bt165 => (portreevelaw17_MeterTells.j0 k a0_3 a0_4 a0_5 a0_6 t159 t160 (!(bt162.1 == bt165.1) || (!(bt162.2.1 == bt165.2.1) || (!(bt162.2.2 == bt165.2.2)))) a0_0 a0_1 a0_2))))) = some r := H
  have A3 := Aside0.mk A30
  clear A30
  have HC4 := Aside0.mk H
  clear H
  go_enter Try.func3, Try.ntmps3
  go_upto_region 8 with (first | ((with_reducible refine gate_dst (N := 1) rfl ?_); refine box_event ?hg (N := 1) ?hd (cs := #[.int .u64 a0_0, .int .u64 a0_1, .int .i64 a0_2, .int .i64 a0_3, .int .i64 a0_4, .int .i64 a0_5, .int .i64 a0_6]) (t := 26) ?hr ?_; (case hd => rfl); (case hg => rfl); (case hr => first | (go_simp; done) | (go_simp; rfl)); intro gb157 hg w5 hbox hb; have n0_ := Aside0.mk (below_step (by repeat (first | (with_reducible first | exact HB.out | apply pA | apply pN | apply pD) | exact HB.out)) hb); have n1_ := Aside0.mk (hbox); have n2_ := Aside0.mk ((by rw [hg]; exact (below_size (by repeat (first | (with_reducible first | exact HB.out | apply pA | apply pN | apply pD) | exact HB.out))) : w.heap.size ≤ gb157)); have n3_ := Aside0.mk ((by rw [hg]; exact (below_size (by repeat (first | (with_reducible first | exact HB.out | apply pA | apply pN | apply pD) | exact HB.out))) : w.heap.size ≤ gb157)); clear HB; have HB := n0_; have BK157 := n1_; have GW157 := n2_; have GE157 := n3_; clear n0_ n1_ n2_ n3_; clear hb hbox hg; have hcz6_0 : w5.cell? ⟨gb157, 0, none⟩ = some (.int .u64 a0_0) := (blk_cell BK157.out 0).trans rfl; have hcz6_1 : w5.cell? ⟨gb157, 1, none⟩ = some (.int .u64 a0_1) := (blk_cell BK157.out 1).trans rfl; have hcz6_2 : w5.cell? ⟨gb157, 2, none⟩ = some (.int .i64 a0_2) := (blk_cell BK157.out 2).trans rfl; have hcz6_3 : w5.cell? ⟨gb157, 3, none⟩ = some (.int .i64 a0_3) := (blk_cell BK157.out 3).trans rfl; have hcz6_4 : w5.cell? ⟨gb157, 4, none⟩ = some (.int .i64 a0_4) := (blk_cell BK157.out 4).trans rfl; have hcz6_5 : w5.cell? ⟨gb157, 5, none⟩ = some (.int .i64 a0_5) := (blk_cell BK157.out 5).trans rfl; have hcz6_6 : w5.cell? ⟨gb157, 6, none⟩ = some (.int .i64 a0_6) := (blk_cell BK157.out 6).trans rfl; have hfz6_0 := blk_frozen BK157.out 0; have hfz6_1 := blk_frozen BK157.out 1; have hfz6_2 := blk_frozen BK157.out 2; have hfz6_3 := blk_frozen BK157.out 3; have hfz6_4 := blk_frozen BK157.out 4; have hfz6_5 := blk_frozen BK157.out 5; have hfz6_6 := blk_frozen BK157.out 6) | ((with_reducible refine gate_dst (N := 3) rfl ?_); refine box_event ?hg (N := 3) ?hd (cs := #[.int .u64 0, .int .u64 0, .int .i64 0]) (t := 24) ?hr ?_; (case hd => rfl); (case hg => rfl); (case hr => first | (go_simp; done) | (go_simp; rfl)); intro gb158 hg w7 hbox hb; have n0_ := Aside0.mk (blk_below (g := gb157) (o := .cells #[.int .u64 a0_0, .int .u64 a0_1, .int .i64 a0_2, .int .i64 a0_3, .int .i64 a0_4, .int .i64 a0_5, .int .i64 a0_6] 26 (0, 0)) (by (with_reducible repeat (first | refine qN ?_ _ | refine qD ?_ | refine qA ?_ _)); exact BK157.out) hb); have n1_ := Aside0.mk (below_step (by repeat (first | (with_reducible first | exact HB.out | apply pA | apply pN | apply pD | refine pS ?_ GE157.out) | exact HB.out)) hb); have n2_ := Aside0.mk (hbox); have n3_ := Aside0.mk ((by rw [hg]; exact (below_size (by repeat (first | (with_reducible first | exact HB.out | apply pA | apply pN | apply pD | refine pS ?_ GE157.out) | exact HB.out))) : w.heap.size ≤ gb158)); have n4_ := Aside0.mk ((by rw [hg]; exact (below_size (by repeat (first | (with_reducible first | exact HB.out | apply pA | apply pN | apply pD | refine pS ?_ GE157.out) | exact HB.out))) : w.heap.size ≤ gb158)); have n5_ := Aside0.mk ((by rw [hg]; exact Nat.ne_of_lt (blk_lt (g := gb157) (o := .cells #[.int .u64 a0_0, .int .u64 a0_1, .int .i64 a0_2, .int .i64 a0_3, .int .i64 a0_4, .int .i64 a0_5, .int .i64 a0_6] 26 (0, 0)) (by (with_reducible repeat (first | refine qN ?_ _ | refine qD ?_ | refine qA ?_ _)); exact BK157.out)) : gb157 ≠ gb158)); have n6_ := Aside0.mk ((by rw [hg]; exact Nat.ne_of_gt (blk_lt (g := gb157) (o := .cells #[.int .u64 a0_0, .int .u64 a0_1, .int .i64 a0_2, .int .i64 a0_3, .int .i64 a0_4, .int .i64 a0_5, .int .i64 a0_6] 26 (0, 0)) (by (with_reducible repeat (first | refine qN ?_ _ | refine qD ?_ | refine qA ?_ _)); exact BK157.out)) : gb158 ≠ gb157)); clear BK157; clear HB; have BK157 := n0_; have HB := n1_; have BK158 := n2_; have GW158 := n3_; have GE158 := n4_; have NB157_158 := n5_; have NB158_157 := n6_; clear n0_ n1_ n2_ n3_ n4_ n5_ n6_; clear hb hbox hg; have hnb8 := NB158_157.out; have hnc8 := NB157_158.out; have hcz9_0 : w7.cell? ⟨gb158, 0, none⟩ = some (.int .u64 0) := (blk_cell BK158.out 0).trans rfl; have hcz9_1 : w7.cell? ⟨gb158, 1, none⟩ = some (.int .u64 0) := (blk_cell BK158.out 1).trans rfl; have hcz9_2 : w7.cell? ⟨gb158, 2, none⟩ = some (.int .i64 0) := (blk_cell BK158.out 2).trans rfl; have hfz9_0 := blk_frozen BK158.out 0; have hfz9_1 := blk_frozen BK158.out 1; have hfz9_2 := blk_frozen BK158.out 2; have hcz10_0 : w7.cell? ⟨gb157, 0, none⟩ = some (.int .u64 a0_0) := (blk_cell BK157.out 0).trans rfl; have hcz10_1 : w7.cell? ⟨gb157, 1, none⟩ = some (.int .u64 a0_1) := (blk_cell BK157.out 1).trans rfl; have hcz10_2 : w7.cell? ⟨gb157, 2, none⟩ = some (.int .i64 a0_2) := (blk_cell BK157.out 2).trans rfl; have hcz10_3 : w7.cell? ⟨gb157, 3, none⟩ = some (.int .i64 a0_3) := (blk_cell BK157.out 3).trans rfl; have hcz10_4 : w7.cell? ⟨gb157, 4, none⟩ = some (.int .i64 a0_4) := (blk_cell BK157.out 4).trans rfl; have hcz10_5 : w7.cell? ⟨gb157, 5, none⟩ = some (.int .i64 a0_5) := (blk_cell BK157.out 5).trans rfl; have hcz10_6 : w7.cell? ⟨gb157, 6, none⟩ = some (.int .i64 a0_6) := (blk_cell BK157.out 6).trans rfl; have hfz10_0 := blk_frozen BK157.out 0; have hfz10_1 := blk_frozen BK157.out 1; have hfz10_2 := blk_frozen BK157.out 2; have hfz10_3 := blk_frozen BK157.out 3; have hfz10_4 := blk_frozen BK157.out 4; have hfz10_5 := blk_frozen BK157.out 5; have hfz10_6 := blk_frozen BK157.out 6) | ((with_reducible refine gate_callee (f := 9) rfl ?_); refine goesL_ (some 24) rfl rfl Try.func9 (by kernel_rfl) rfl #[] rfl (by (try simp only [List.map_toArray, List.map_cons, List.map_nil]); first | done | rfl | (simp only [List.length_drop, List.length_take]; rfl)) ?_; (with_reducible refine (portreevelaw17_shown.calls k  t159 _ A2.out).mono ?_); rintro e w11 ⟨rfl, hb⟩; refine ⟨_, rfl, ?_⟩; have n0_ := Aside0.mk (blk_below (g := gb157) (o := .cells #[.int .u64 a0_0, .int .u64 a0_1, .int .i64 a0_2, .int .i64 a0_3, .int .i64 a0_4, .int .i64 a0_5, .int .i64 a0_6] 26 (0, 0)) (by (with_reducible repeat (first | refine qN ?_ _ | refine qD ?_ | refine qA ?_ _)); refine blk_far ?_ NB157_158.out _; (with_reducible repeat (first | refine qN ?_ _ | refine qD ?_ | refine qA ?_ _)); refine blk_far ?_ NB157_158.out _; (with_reducible repeat (first | refine qN ?_ _ | refine qD ?_ | refine qA ?_ _)); refine blk_far ?_ NB157_158.out _; (with_reducible repeat (first | refine qN ?_ _ | refine qD ?_ | refine qA ?_ _)); exact BK157.out) hb); have n1_ := Aside0.mk (blk_below (g := gb158) (o := .cells #[.int .u64 a0_0, .int .u64 a0_1, .int .i64 a0_2] 24 (0, 0)) (by (with_reducible repeat (first | refine qN ?_ _ | refine qD ?_ | refine qA ?_ _)); refine blk_put (cs := #[.int .u64 a0_0, .int .u64 a0_1, .int .i64 0]) ?_ 2 _ rfl; (with_reducible repeat (first | refine qN ?_ _ | refine qD ?_ | refine qA ?_ _)); refine blk_put (cs := #[.int .u64 a0_0, .int .u64 0, .int .i64 0]) ?_ 1 _ rfl; (with_reducible repeat (first | refine qN ?_ _ | refine qD ?_ | refine qA ?_ _)); refine blk_put (cs := #[.int .u64 0, .int .u64 0, .int .i64 0]) ?_ 0 _ rfl; (with_reducible repeat (first | refine qN ?_ _ | refine qD ?_ | refine qA ?_ _)); exact BK158.out) hb); have n2_ := Aside0.mk (below_step (by repeat (first | (with_reducible first | exact HB.out | apply pA | apply pN | apply pD | refine pS ?_ GE157.out | refine pS ?_ GE158.out) | exact HB.out)) hb); clear BK157; clear BK158; clear HB; have BK157 := n0_; have BK158 := n1_; have HB := n2_; clear n0_ n1_ n2_; (try clear hb); (try clear hb2); (try clear hk); (try clear hi); have hcz12_0 : w11.cell? ⟨gb158, 0, none⟩ = some (.int .u64 a0_0) := (blk_cell BK158.out 0).trans rfl; have hcz12_1 : w11.cell? ⟨gb158, 1, none⟩ = some (.int .u64 a0_1) := (blk_cell BK158.out 1).trans rfl; have hcz12_2 : w11.cell? ⟨gb158, 2, none⟩ = some (.int .i64 a0_2) := (blk_cell BK158.out 2).trans rfl; have hfz12_0 := blk_frozen BK158.out 0; have hfz12_1 := blk_frozen BK158.out 1; have hfz12_2 := blk_frozen BK158.out 2) | ((with_reducible refine gate_callee (f := 10) rfl ?_); refine goesL_ (some 26) rfl rfl Try.func10 (by kernel_rfl) rfl #[.agg #[.int .u64 a0_0, .int .u64 a0_1, .int .i64 a0_2]] rfl (by (try simp only [List.map_toArray, List.map_cons, List.map_nil]); first | done | rfl | (simp only [List.length_drop, List.length_take]; rfl)) ?_; (with_reducible refine (portreeveref17_Right.calls a0_0 a0_1 a0_2 t160 _ A3.out).mono ?_); rintro e w13 ⟨rfl, hb⟩; refine ⟨_, rfl, ?_⟩; have n0_ := Aside0.mk (blk_below (g := gb157) (o := .cells #[.int .u64 a0_0, .int .u64 a0_1, .int .i64 a0_2, .int .i64 a0_3, .int .i64 a0_4, .int .i64 a0_5, .int .i64 a0_6] 26 (0, 0)) (by (with_reducible repeat (first | refine qN ?_ _ | refine qD ?_ | refine qA ?_ _)); exact BK157.out) hb); have n1_ := Aside0.mk (blk_below (g := gb158) (o := .cells #[.int .u64 a0_0, .int .u64 a0_1, .int .i64 a0_2] 24 (0, 0)) (by (with_reducible repeat (first | refine qN ?_ _ | refine qD ?_ | refine qA ?_ _)); exact BK158.out) hb); have n2_ := Aside0.mk (below_step (by repeat (first | (with_reducible first | exact HB.out | apply pA | apply pN | apply pD | refine pS ?_ GE157.out | refine pS ?_ GE158.out) | exact HB.out)) hb); clear BK157; clear BK158; clear HB; have BK157 := n0_; have BK158 := n1_; have HB := n2_; clear n0_ n1_ n2_; (try clear hb); (try clear hb2); (try clear hk); (try clear hi)))
  (try simp only [Act.put, List.setIfInBounds_toArray, List.set_cons_zero, List.set_cons_succ])
  go_cut [35] (fun v35 wc => ∃ (kq : Nat) (x35_3 : Bool), v35 = .bool x35_3 ∧ Aside0 (portreevelaw17_MeterTells.j0 kq a0_3 a0_4 a0_5 a0_6 t159 t160 x35_3 a0_0 a0_1 a0_2 = some r) ∧ Aside0 (kq ≤ k) ∧ Aside0 (wc.heap[gb157]? = some (.cells #[.int .u64 a0_0, .int .u64 a0_1, .int .i64 a0_2, .int .i64 a0_3, .int .i64 a0_4, .int .i64 a0_5, .int .i64 a0_6] 26 (0, 0))) ∧ Aside0 (wc.heap[gb158]? = some (.cells #[.int .u64 a0_0, .int .u64 a0_1, .int .i64 a0_2] 24 (0, 0))) ∧ Aside0 (Below w.heap.size w wc))
  case first =>
    have H := HC4.out
    clear HC4
    replace H := Option.bind_eq_some_iff.mp H
    obtain ⟨t161, A140, H⟩ := H
    replace H : (if (t161 != t160) = true then (portreevelaw17_MeterTells.j0 k a0_3 a0_4 a0_5 a0_6 t159 t160 true a0_0 a0_1 a0_2) else ((meter_New.f).bind fun bt162 => ((portreeveref17_New.f).bind fun bt165 => (portreevelaw17_MeterTells.j0 k a0_3 a0_4 a0_5 a0_6 t159 t160 (!(bt162.1 == bt165.1) || (!(bt162.2.1 == bt165.2.1) || (!(bt162.2.2 == bt165.2.2)))) a0_0 a0_1 a0_2)))) = some r := H
    have A14 := Aside0.mk A140
    clear A140
    by_cases c15 : (t161 != t160) = true
    · rw [if_pos c15] at H
      have c15b0 : (t161 != t160) = true := c15
      (try (have c15b1 : decide (t161 = t160) = false := by simpa using c15))
      (try (have c15b2 : (t161 == t160) = false := by simpa using c15))
      (try (have c15b3 : ¬ (t161 = t160) := by simpa using c15))
      clear c15
      (first | rw [c15b0] | (simp only [i64_w, i32_w]; rw [c15b0]) | skip)
      have H' := Aside0.mk H
      clear H
      have hnb16 := NB158_157.out
      have hnc16 := NB157_158.out
      have hcz17_0 : w13.cell? ⟨gb158, 0, none⟩ = some (.int .u64 a0_0) := (blk_cell BK158.out 0).trans rfl
      have hcz17_1 : w13.cell? ⟨gb158, 1, none⟩ = some (.int .u64 a0_1) := (blk_cell BK158.out 1).trans rfl
      have hcz17_2 : w13.cell? ⟨gb158, 2, none⟩ = some (.int .i64 a0_2) := (blk_cell BK158.out 2).trans rfl
      have hfz17_0 := blk_frozen BK158.out 0
      have hfz17_1 := blk_frozen BK158.out 1
      have hfz17_2 := blk_frozen BK158.out 2
      go_wp2_with (first | ((with_reducible refine gate_callee (f := 11) rfl ?_); refine goesL_ (some 28) rfl rfl Try.func11 (by kernel_rfl) rfl #[.agg #[.int .u64 a0_0, .int .u64 a0_1, .int .i64 a0_2]] rfl (by (try simp only [List.map_toArray, List.map_cons, List.map_nil]); first | done | rfl | (simp only [List.length_drop, List.length_take]; rfl)) ?_; (with_reducible refine (meter_Right.calls a0_0 a0_1 a0_2 t161 _ A14.out).mono ?_); rintro e w18 ⟨rfl, hb⟩; refine ⟨_, rfl, ?_⟩; have n0_ := Aside0.mk (blk_below (g := gb157) (o := .cells #[.int .u64 a0_0, .int .u64 a0_1, .int .i64 a0_2, .int .i64 a0_3, .int .i64 a0_4, .int .i64 a0_5, .int .i64 a0_6] 26 (0, 0)) (by (with_reducible repeat (first | refine qN ?_ _ | refine qD ?_ | refine qA ?_ _)); exact BK157.out) hb); have n1_ := Aside0.mk (blk_below (g := gb158) (o := .cells #[.int .u64 a0_0, .int .u64 a0_1, .int .i64 a0_2] 24 (0, 0)) (by (with_reducible repeat (first | refine qN ?_ _ | refine qD ?_ | refine qA ?_ _)); exact BK158.out) hb); have n2_ := Aside0.mk (below_step (by repeat (first | (with_reducible first | exact HB.out | apply pA | apply pN | apply pD | refine pS ?_ GE157.out | refine pS ?_ GE158.out) | exact HB.out)) hb); clear BK157; clear BK158; clear HB; have BK157 := n0_; have BK158 := n1_; have HB := n2_; clear n0_ n1_ n2_; (try clear hb); (try clear hb2); (try clear hk); (try clear hi)))
      go_meet
      case rel => exact ⟨_, (true), (by first | rfl | (simp; done) | (simp [*]; done)), H', ⟨by first | omega | exact Nat.le_refl _⟩, ⟨by (with_reducible repeat (first | refine qN ?_ _ | refine qD ?_ | refine qA ?_ _)); exact BK157.out⟩, ⟨by (with_reducible repeat (first | refine qN ?_ _ | refine qD ?_ | refine qA ?_ _)); exact BK158.out⟩, ⟨by repeat (first | (with_reducible first | exact HB.out | apply pA | apply pN | apply pD | refine pS ?_ GE157.out | refine pS ?_ GE158.out) | exact HB.out)⟩⟩
    · rw [if_neg c15] at H
      have c15b0 : (t161 != t160) = false := by simpa using c15
      (try (have c15b1 : decide (t161 = t160) = true := by simpa using c15))
      (try (have c15b2 : (t161 == t160) = true := by simpa using c15))
      clear c15
      (first | rw [c15b0] | (simp only [i64_w, i32_w]; rw [c15b0]) | skip)
      replace H := Option.bind_eq_some_iff.mp H
      obtain ⟨⟨t162, t163, t164⟩, A190, H⟩ := H
      replace H : ((portreeveref17_New.f).bind fun bt165 => (portreevelaw17_MeterTells.j0 k a0_3 a0_4 a0_5 a0_6 t159 t160 (!(t162 == bt165.1) || (!(t163 == bt165.2.1) || (!(t164 == bt165.2.2)))) a0_0 a0_1 a0_2)) = some r := H
      have A19 := Aside0.mk A190
      clear A190
      replace H := Option.bind_eq_some_iff.mp H
      obtain ⟨⟨t165, t166, t167⟩, A200, H⟩ := H
      replace H : (portreevelaw17_MeterTells.j0 k a0_3 a0_4 a0_5 a0_6 t159 t160 (!(t162 == t165) || (!(t163 == t166) || (!(t164 == t167)))) a0_0 a0_1 a0_2) = some r := H
      have A20 := Aside0.mk A200
      clear A200
      have H' := Aside0.mk H
      clear H
      have hnb21 := NB158_157.out
      have hnc21 := NB157_158.out
      have hcz22_0 : w13.cell? ⟨gb158, 0, none⟩ = some (.int .u64 a0_0) := (blk_cell BK158.out 0).trans rfl
      have hcz22_1 : w13.cell? ⟨gb158, 1, none⟩ = some (.int .u64 a0_1) := (blk_cell BK158.out 1).trans rfl
      have hcz22_2 : w13.cell? ⟨gb158, 2, none⟩ = some (.int .i64 a0_2) := (blk_cell BK158.out 2).trans rfl
      have hfz22_0 := blk_frozen BK158.out 0
      have hfz22_1 := blk_frozen BK158.out 1
      have hfz22_2 := blk_frozen BK158.out 2
      go_wp2_with (first | ((with_reducible refine gate_callee (f := 11) rfl ?_); refine goesL_ (some 28) rfl rfl Try.func11 (by kernel_rfl) rfl #[.agg #[.int .u64 a0_0, .int .u64 a0_1, .int .i64 a0_2]] rfl (by (try simp only [List.map_toArray, List.map_cons, List.map_nil]); first | done | rfl | (simp only [List.length_drop, List.length_take]; rfl)) ?_; (with_reducible refine (meter_Right.calls a0_0 a0_1 a0_2 t161 _ A14.out).mono ?_); rintro e w23 ⟨rfl, hb⟩; refine ⟨_, rfl, ?_⟩; have n0_ := Aside0.mk (blk_below (g := gb157) (o := .cells #[.int .u64 a0_0, .int .u64 a0_1, .int .i64 a0_2, .int .i64 a0_3, .int .i64 a0_4, .int .i64 a0_5, .int .i64 a0_6] 26 (0, 0)) (by (with_reducible repeat (first | refine qN ?_ _ | refine qD ?_ | refine qA ?_ _)); exact BK157.out) hb); have n1_ := Aside0.mk (blk_below (g := gb158) (o := .cells #[.int .u64 a0_0, .int .u64 a0_1, .int .i64 a0_2] 24 (0, 0)) (by (with_reducible repeat (first | refine qN ?_ _ | refine qD ?_ | refine qA ?_ _)); exact BK158.out) hb); have n2_ := Aside0.mk (below_step (by repeat (first | (with_reducible first | exact HB.out | apply pA | apply pN | apply pD | refine pS ?_ GE157.out | refine pS ?_ GE158.out) | exact HB.out)) hb); clear BK157; clear BK158; clear HB; have BK157 := n0_; have BK158 := n1_; have HB := n2_; clear n0_ n1_ n2_; (try clear hb); (try clear hb2); (try clear hk); (try clear hi)) | (go_at_call 12; (with_reducible refine (meter_New.calls  t162 t163 t164 _ A19.out).mono ?_); rintro e w24 ⟨rfl, hb⟩; have n0_ := Aside0.mk (blk_below (g := gb157) (o := .cells #[.int .u64 a0_0, .int .u64 a0_1, .int .i64 a0_2, .int .i64 a0_3, .int .i64 a0_4, .int .i64 a0_5, .int .i64 a0_6] 26 (0, 0)) (by (with_reducible repeat (first | refine qN ?_ _ | refine qD ?_ | refine qA ?_ _)); exact BK157.out) hb); have n1_ := Aside0.mk (blk_below (g := gb158) (o := .cells #[.int .u64 a0_0, .int .u64 a0_1, .int .i64 a0_2] 24 (0, 0)) (by (with_reducible repeat (first | refine qN ?_ _ | refine qD ?_ | refine qA ?_ _)); exact BK158.out) hb); have n2_ := Aside0.mk (below_step (by repeat (first | (with_reducible first | exact HB.out | apply pA | apply pN | apply pD | refine pS ?_ GE157.out | refine pS ?_ GE158.out) | exact HB.out)) hb); clear BK157; clear BK158; clear HB; have BK157 := n0_; have BK158 := n1_; have HB := n2_; clear n0_ n1_ n2_; (try clear hb); (try clear hb2); (try clear hk); (try clear hi)) | (go_at_call 13; (with_reducible refine (portreeveref17_New.calls  t165 t166 t167 _ A20.out).mono ?_); rintro e w25 ⟨rfl, hb⟩; have n0_ := Aside0.mk (blk_below (g := gb157) (o := .cells #[.int .u64 a0_0, .int .u64 a0_1, .int .i64 a0_2, .int .i64 a0_3, .int .i64 a0_4, .int .i64 a0_5, .int .i64 a0_6] 26 (0, 0)) (by (with_reducible repeat (first | refine qN ?_ _ | refine qD ?_ | refine qA ?_ _)); exact BK157.out) hb); have n1_ := Aside0.mk (blk_below (g := gb158) (o := .cells #[.int .u64 a0_0, .int .u64 a0_1, .int .i64 a0_2] 24 (0, 0)) (by (with_reducible repeat (first | refine qN ?_ _ | refine qD ?_ | refine qA ?_ _)); exact BK158.out) hb); have n2_ := Aside0.mk (below_step (by repeat (first | (with_reducible first | exact HB.out | apply pA | apply pN | apply pD | refine pS ?_ GE157.out | refine pS ?_ GE158.out) | exact HB.out)) hb); clear BK157; clear BK158; clear HB; have BK157 := n0_; have BK158 := n1_; have HB := n2_; clear n0_ n1_ n2_; (try clear hb); (try clear hb2); (try clear hk); (try clear hi)))
      go_meet
      case rel => exact ⟨_, ((!(t162 == t165) || (!(t163 == t166) || (!(t164 == t167))))), (by first | rfl | (simp; done) | (simp [*]; done)), H', ⟨by first | omega | exact Nat.le_refl _⟩, ⟨by (with_reducible repeat (first | refine qN ?_ _ | refine qD ?_ | refine qA ?_ _)); exact BK157.out⟩, ⟨by (with_reducible repeat (first | refine qN ?_ _ | refine qD ?_ | refine qA ?_ _)); exact BK158.out⟩, ⟨by repeat (first | (with_reducible first | exact HB.out | apply pA | apply pN | apply pD | refine pS ?_ GE157.out | refine pS ?_ GE158.out) | exact HB.out)⟩⟩
  case rest =>
    clear HC4
    try clear c1
    try clear c2
    try clear p2
    try clear c3
    try clear c8
    try clear c9
    try clear c10
    try clear c11
    try clear c15
    try clear c15b0
    try clear c15b1
    try clear c15b2
    try clear c16
    try clear c21
    try clear hcz10_0
    try clear hcz10_1
    try clear hcz10_2
    try clear hcz10_3
    try clear hcz10_4
    try clear hcz10_5
    try clear hcz10_6
    try clear hcz12_0
    try clear hcz12_1
    try clear hcz12_2
    try clear hcz17_0
    try clear hcz17_1
    try clear hcz17_2
    try clear hcz22_0
    try clear hcz22_1
    try clear hcz22_2
    try clear hcz6_0
    try clear hcz6_1
    try clear hcz6_2
    try clear hcz6_3
    try clear hcz6_4
    try clear hcz6_5
    try clear hcz6_6
    try clear hcz9_0
    try clear hcz9_1
    try clear hcz9_2
    try clear hfz10_0
    try clear hfz10_1
    try clear hfz10_2
    try clear hfz10_3
    try clear hfz10_4
    try clear hfz10_5
    try clear hfz10_6
    try clear hfz12_0
    try clear hfz12_1
    try clear hfz12_2
    try clear hfz17_0
    try clear hfz17_1
    try clear hfz17_2
    try clear hfz22_0
    try clear hfz22_1
    try clear hfz22_2
    try clear hfz6_0
    try clear hfz6_1
    try clear hfz6_2
    try clear hfz6_3
    try clear hfz6_4
    try clear hfz6_5
    try clear hfz6_6
    try clear hfz9_0
    try clear hfz9_1
    try clear hfz9_2
    obtain ⟨kq, x35_3, rfl, HA, HJ3, BK157, BK158, HB⟩ := hcut
    cases kq with
    | zero => exact absurd HA.out (by simp [portreevelaw17_MeterTells.j0])
    | succ kj3 =>
      have H := HA.out
      clear HA
      simp only [portreevelaw17_MeterTells.j0] at H
      by_cases c26 : x35_3 = true
      · subst c26
        have H1 : (some false) = some r := by rw [if_pos rfl] at H; exact H
        clear H
        have H := H1
        clear H1
        exact absurd ((Option.some.inj H).trans hlaw_.out) (by decide)
      · replace c26 := Bool.eq_false_iff.mpr c26
        subst c26
        have H1 : (if t160 = true then ((meter_Tick.f a0_0 a0_1 a0_2).bind fun bt168 => ((portreeveref17_Tick.f a0_0 a0_1 a0_2).bind fun bt173 => (if t159 = true then ((meter_Count.f a0_0 a0_1 a0_2 a0_3 a0_4).bind fun bt178 => ((portreeveref17_Count.f a0_0 a0_1 a0_2 a0_3 a0_4).bind fun bt181 => (if (bt178.1 == bt181.1 && (bt178.2.1 == bt181.2.1 && (bt178.2.2 == bt181.2.2))) = true then (if (bt168.1 == bt173.1 && (bt168.2.1 == bt173.2.1 && (bt168.2.2.1 == bt173.2.2.1))) = true then (if (bt168.2.2.2 == bt173.2.2.2) = true then ((meter_Note.f a0_0 a0_1 a0_2 a0_5).bind fun bt184 => ((portreeveref17_Note.f a0_0 a0_1 a0_2 a0_5).bind fun bt193 => (if (bt184.1 == bt193.1 && (bt184.2.1 == bt193.2.1 && (bt184.2.2.1 == bt193.2.2.1 && (bt184.2.2.2.1 == bt193.2.2.2.1 && (bt184.2.2.2.2.1.toList == bt193.2.2.2.2.1.toList && (bt184.2.2.2.2.2.1 == bt193.2.2.2.2.2.1 && (bt184.2.2.2.2.2.2.1 == bt193.2.2.2.2.2.2.1 && (bt184.2.2.2.2.2.2.2.1 == bt193.2.2.2.2.2.2.2.1 && (bt184.2.2.2.2.2.2.2.2 == bt193.2.2.2.2.2.2.2.2))))))))) = true then ((meter_Stop.f a0_0 a0_1 a0_2 a0_5 a0_6).bind fun bt202 => ((portreeveref17_Stop.f a0_0 a0_1 a0_2 a0_5 a0_6).bind fun bt211 => (some (bt202.1 == bt211.1 && (bt202.2.1 == bt211.2.1 && (bt202.2.2.1 == bt211.2.2.1 && (bt202.2.2.2.1 == bt211.2.2.2.1 && (bt202.2.2.2.2.1.toList == bt211.2.2.2.2.1.toList && (bt202.2.2.2.2.2.1 == bt211.2.2.2.2.2.1 && (bt202.2.2.2.2.2.2.1 == bt211.2.2.2.2.2.2.1 && (bt202.2.2.2.2.2.2.2.1 == bt211.2.2.2.2.2.2.2.1 && (bt202.2.2.2.2.2.2.2.2 == bt211.2.2.2.2.2.2.2.2)))))))))))) else (some false)))) else (some false)) else (some false)) else (some false)))) else (some false)))) else (some t159)) = some r := by rw [if_neg (show ¬ (false = true) by decide)] at H; exact H
        clear H
        have H := H1
        clear H1
        by_cases c27 : t160 = true
        · subst c27
          have H1 : ((meter_Tick.f a0_0 a0_1 a0_2).bind fun bt168 => ((portreeveref17_Tick.f a0_0 a0_1 a0_2).bind fun bt173 => (if t159 = true then ((meter_Count.f a0_0 a0_1 a0_2 a0_3 a0_4).bind fun bt178 => ((portreeveref17_Count.f a0_0 a0_1 a0_2 a0_3 a0_4).bind fun bt181 => (if (bt178.1 == bt181.1 && (bt178.2.1 == bt181.2.1 && (bt178.2.2 == bt181.2.2))) = true then (if (bt168.1 == bt173.1 && (bt168.2.1 == bt173.2.1 && (bt168.2.2.1 == bt173.2.2.1))) = true then (if (bt168.2.2.2 == bt173.2.2.2) = true then ((meter_Note.f a0_0 a0_1 a0_2 a0_5).bind fun bt184 => ((portreeveref17_Note.f a0_0 a0_1 a0_2 a0_5).bind fun bt193 => (if (bt184.1 == bt193.1 && (bt184.2.1 == bt193.2.1 && (bt184.2.2.1 == bt193.2.2.1 && (bt184.2.2.2.1 == bt193.2.2.2.1 && (bt184.2.2.2.2.1.toList == bt193.2.2.2.2.1.toList && (bt184.2.2.2.2.2.1 == bt193.2.2.2.2.2.1 && (bt184.2.2.2.2.2.2.1 == bt193.2.2.2.2.2.2.1 && (bt184.2.2.2.2.2.2.2.1 == bt193.2.2.2.2.2.2.2.1 && (bt184.2.2.2.2.2.2.2.2 == bt193.2.2.2.2.2.2.2.2))))))))) = true then ((meter_Stop.f a0_0 a0_1 a0_2 a0_5 a0_6).bind fun bt202 => ((portreeveref17_Stop.f a0_0 a0_1 a0_2 a0_5 a0_6).bind fun bt211 => (some (bt202.1 == bt211.1 && (bt202.2.1 == bt211.2.1 && (bt202.2.2.1 == bt211.2.2.1 && (bt202.2.2.2.1 == bt211.2.2.2.1 && (bt202.2.2.2.2.1.toList == bt211.2.2.2.2.1.toList && (bt202.2.2.2.2.2.1 == bt211.2.2.2.2.2.1 && (bt202.2.2.2.2.2.2.1 == bt211.2.2.2.2.2.2.1 && (bt202.2.2.2.2.2.2.2.1 == bt211.2.2.2.2.2.2.2.1 && (bt202.2.2.2.2.2.2.2.2 == bt211.2.2.2.2.2.2.2.2)))))))))))) else (some false)))) else (some false)) else (some false)) else (some false)))) else (some false)))) = some r := by rw [if_pos rfl] at H; exact H
          clear H
          have H := H1
          clear H1
          replace H := Option.bind_eq_some_iff.mp H
          obtain ⟨⟨t168, t169, t170, t171⟩, A280, H⟩ := H
          replace H : ((portreeveref17_Tick.f a0_0 a0_1 a0_2).bind fun bt173 => (if t159 = true then ((meter_Count.f a0_0 a0_1 a0_2 a0_3 a0_4).bind fun bt178 => ((portreeveref17_Count.f a0_0 a0_1 a0_2 a0_3 a0_4).bind fun bt181 => (if (bt178.1 == bt181.1 && (bt178.2.1 == bt181.2.1 && (bt178.2.2 == bt181.2.2))) = true then (if (t168 == bt173.1 && (t169 == bt173.2.1 && (t170 == bt173.2.2.1))) = true then (if (t171 == bt173.2.2.2) = true then ((meter_Note.f a0_0 a0_1 a0_2 a0_5).bind fun bt184 => ((portreeveref17_Note.f a0_0 a0_1 a0_2 a0_5).bind fun bt193 => (if (bt184.1 == bt193.1 && (bt184.2.1 == bt193.2.1 && (bt184.2.2.1 == bt193.2.2.1 && (bt184.2.2.2.1 == bt193.2.2.2.1 && (bt184.2.2.2.2.1.toList == bt193.2.2.2.2.1.toList && (bt184.2.2.2.2.2.1 == bt193.2.2.2.2.2.1 && (bt184.2.2.2.2.2.2.1 == bt193.2.2.2.2.2.2.1 && (bt184.2.2.2.2.2.2.2.1 == bt193.2.2.2.2.2.2.2.1 && (bt184.2.2.2.2.2.2.2.2 == bt193.2.2.2.2.2.2.2.2))))))))) = true then ((meter_Stop.f a0_0 a0_1 a0_2 a0_5 a0_6).bind fun bt202 => ((portreeveref17_Stop.f a0_0 a0_1 a0_2 a0_5 a0_6).bind fun bt211 => (some (bt202.1 == bt211.1 && (bt202.2.1 == bt211.2.1 && (bt202.2.2.1 == bt211.2.2.1 && (bt202.2.2.2.1 == bt211.2.2.2.1 && (bt202.2.2.2.2.1.toList == bt211.2.2.2.2.1.toList && (bt202.2.2.2.2.2.1 == bt211.2.2.2.2.2.1 && (bt202.2.2.2.2.2.2.1 == bt211.2.2.2.2.2.2.1 && (bt202.2.2.2.2.2.2.2.1 == bt211.2.2.2.2.2.2.2.1 && (bt202.2.2.2.2.2.2.2.2 == bt211.2.2.2.2.2.2.2.2)))))))))))) else (some false)))) else (some false)) else (some false)) else (some false)))) else (some false))) = some r := H
          have A28 := Aside0.mk A280
          clear A280
          replace H := Option.bind_eq_some_iff.mp H
          obtain ⟨⟨t173, t174, t175, t176⟩, A290, H⟩ := H
          replace H : (if t159 = true then ((meter_Count.f a0_0 a0_1 a0_2 a0_3 a0_4).bind fun bt178 => ((portreeveref17_Count.f a0_0 a0_1 a0_2 a0_3 a0_4).bind fun bt181 => (if (bt178.1 == bt181.1 && (bt178.2.1 == bt181.2.1 && (bt178.2.2 == bt181.2.2))) = true then (if (t168 == t173 && (t169 == t174 && (t170 == t175))) = true then (if (t171 == t176) = true then ((meter_Note.f a0_0 a0_1 a0_2 a0_5).bind fun bt184 => ((portreeveref17_Note.f a0_0 a0_1 a0_2 a0_5).bind fun bt193 => (if (bt184.1 == bt193.1 && (bt184.2.1 == bt193.2.1 && (bt184.2.2.1 == bt193.2.2.1 && (bt184.2.2.2.1 == bt193.2.2.2.1 && (bt184.2.2.2.2.1.toList == bt193.2.2.2.2.1.toList && (bt184.2.2.2.2.2.1 == bt193.2.2.2.2.2.1 && (bt184.2.2.2.2.2.2.1 == bt193.2.2.2.2.2.2.1 && (bt184.2.2.2.2.2.2.2.1 == bt193.2.2.2.2.2.2.2.1 && (bt184.2.2.2.2.2.2.2.2 == bt193.2.2.2.2.2.2.2.2))))))))) = true then ((meter_Stop.f a0_0 a0_1 a0_2 a0_5 a0_6).bind fun bt202 => ((portreeveref17_Stop.f a0_0 a0_1 a0_2 a0_5 a0_6).bind fun bt211 => (some (bt202.1 == bt211.1 && (bt202.2.1 == bt211.2.1 && (bt202.2.2.1 == bt211.2.2.1 && (bt202.2.2.2.1 == bt211.2.2.2.1 && (bt202.2.2.2.2.1.toList == bt211.2.2.2.2.1.toList && (bt202.2.2.2.2.2.1 == bt211.2.2.2.2.2.1 && (bt202.2.2.2.2.2.2.1 == bt211.2.2.2.2.2.2.1 && (bt202.2.2.2.2.2.2.2.1 == bt211.2.2.2.2.2.2.2.1 && (bt202.2.2.2.2.2.2.2.2 == bt211.2.2.2.2.2.2.2.2)))))))))))) else (some false)))) else (some false)) else (some false)) else (some false)))) else (some false)) = some r := H
          have A29 := Aside0.mk A290
          clear A290
          by_cases c30 : t159 = true
          · subst c30
            have H1 : ((meter_Count.f a0_0 a0_1 a0_2 a0_3 a0_4).bind fun bt178 => ((portreeveref17_Count.f a0_0 a0_1 a0_2 a0_3 a0_4).bind fun bt181 => (if (bt178.1 == bt181.1 && (bt178.2.1 == bt181.2.1 && (bt178.2.2 == bt181.2.2))) = true then (if (t168 == t173 && (t169 == t174 && (t170 == t175))) = true then (if (t171 == t176) = true then ((meter_Note.f a0_0 a0_1 a0_2 a0_5).bind fun bt184 => ((portreeveref17_Note.f a0_0 a0_1 a0_2 a0_5).bind fun bt193 => (if (bt184.1 == bt193.1 && (bt184.2.1 == bt193.2.1 && (bt184.2.2.1 == bt193.2.2.1 && (bt184.2.2.2.1 == bt193.2.2.2.1 && (bt184.2.2.2.2.1.toList == bt193.2.2.2.2.1.toList && (bt184.2.2.2.2.2.1 == bt193.2.2.2.2.2.1 && (bt184.2.2.2.2.2.2.1 == bt193.2.2.2.2.2.2.1 && (bt184.2.2.2.2.2.2.2.1 == bt193.2.2.2.2.2.2.2.1 && (bt184.2.2.2.2.2.2.2.2 == bt193.2.2.2.2.2.2.2.2))))))))) = true then ((meter_Stop.f a0_0 a0_1 a0_2 a0_5 a0_6).bind fun bt202 => ((portreeveref17_Stop.f a0_0 a0_1 a0_2 a0_5 a0_6).bind fun bt211 => (some (bt202.1 == bt211.1 && (bt202.2.1 == bt211.2.1 && (bt202.2.2.1 == bt211.2.2.1 && (bt202.2.2.2.1 == bt211.2.2.2.1 && (bt202.2.2.2.2.1.toList == bt211.2.2.2.2.1.toList && (bt202.2.2.2.2.2.1 == bt211.2.2.2.2.2.1 && (bt202.2.2.2.2.2.2.1 == bt211.2.2.2.2.2.2.1 && (bt202.2.2.2.2.2.2.2.1 == bt211.2.2.2.2.2.2.2.1 && (bt202.2.2.2.2.2.2.2.2 == bt211.2.2.2.2.2.2.2.2)))))))))))) else (some false)))) else (some false)) else (some false)) else (some false)))) = some r := by rw [if_pos rfl] at H; exact H
            clear H
            have H := H1
            clear H1
            replace H := Option.bind_eq_some_iff.mp H
            obtain ⟨⟨t178, t179, t180⟩, A310, H⟩ := H
            replace H : ((portreeveref17_Count.f a0_0 a0_1 a0_2 a0_3 a0_4).bind fun bt181 => (if (t178 == bt181.1 && (t179 == bt181.2.1 && (t180 == bt181.2.2))) = true then (if (t168 == t173 && (t169 == t174 && (t170 == t175))) = true then (if (t171 == t176) = true then ((meter_Note.f a0_0 a0_1 a0_2 a0_5).bind fun bt184 => ((portreeveref17_Note.f a0_0 a0_1 a0_2 a0_5).bind fun bt193 => (if (bt184.1 == bt193.1 && (bt184.2.1 == bt193.2.1 && (bt184.2.2.1 == bt193.2.2.1 && (bt184.2.2.2.1 == bt193.2.2.2.1 && (bt184.2.2.2.2.1.toList == bt193.2.2.2.2.1.toList && (bt184.2.2.2.2.2.1 == bt193.2.2.2.2.2.1 && (bt184.2.2.2.2.2.2.1 == bt193.2.2.2.2.2.2.1 && (bt184.2.2.2.2.2.2.2.1 == bt193.2.2.2.2.2.2.2.1 && (bt184.2.2.2.2.2.2.2.2 == bt193.2.2.2.2.2.2.2.2))))))))) = true then ((meter_Stop.f a0_0 a0_1 a0_2 a0_5 a0_6).bind fun bt202 => ((portreeveref17_Stop.f a0_0 a0_1 a0_2 a0_5 a0_6).bind fun bt211 => (some (bt202.1 == bt211.1 && (bt202.2.1 == bt211.2.1 && (bt202.2.2.1 == bt211.2.2.1 && (bt202.2.2.2.1 == bt211.2.2.2.1 && (bt202.2.2.2.2.1.toList == bt211.2.2.2.2.1.toList && (bt202.2.2.2.2.2.1 == bt211.2.2.2.2.2.1 && (bt202.2.2.2.2.2.2.1 == bt211.2.2.2.2.2.2.1 && (bt202.2.2.2.2.2.2.2.1 == bt211.2.2.2.2.2.2.2.1 && (bt202.2.2.2.2.2.2.2.2 == bt211.2.2.2.2.2.2.2.2)))))))))))) else (some false)))) else (some false)) else (some false)) else (some false))) = some r := H
            have A31 := Aside0.mk A310
            clear A310
            replace H := Option.bind_eq_some_iff.mp H
            obtain ⟨⟨t181, t182, t183⟩, A320, H⟩ := H
            replace H : (if (t178 == t181 && (t179 == t182 && (t180 == t183))) = true then (if (t168 == t173 && (t169 == t174 && (t170 == t175))) = true then (if (t171 == t176) = true then ((meter_Note.f a0_0 a0_1 a0_2 a0_5).bind fun bt184 => ((portreeveref17_Note.f a0_0 a0_1 a0_2 a0_5).bind fun bt193 => (if (bt184.1 == bt193.1 && (bt184.2.1 == bt193.2.1 && (bt184.2.2.1 == bt193.2.2.1 && (bt184.2.2.2.1 == bt193.2.2.2.1 && (bt184.2.2.2.2.1.toList == bt193.2.2.2.2.1.toList && (bt184.2.2.2.2.2.1 == bt193.2.2.2.2.2.1 && (bt184.2.2.2.2.2.2.1 == bt193.2.2.2.2.2.2.1 && (bt184.2.2.2.2.2.2.2.1 == bt193.2.2.2.2.2.2.2.1 && (bt184.2.2.2.2.2.2.2.2 == bt193.2.2.2.2.2.2.2.2))))))))) = true then ((meter_Stop.f a0_0 a0_1 a0_2 a0_5 a0_6).bind fun bt202 => ((portreeveref17_Stop.f a0_0 a0_1 a0_2 a0_5 a0_6).bind fun bt211 => (some (bt202.1 == bt211.1 && (bt202.2.1 == bt211.2.1 && (bt202.2.2.1 == bt211.2.2.1 && (bt202.2.2.2.1 == bt211.2.2.2.1 && (bt202.2.2.2.2.1.toList == bt211.2.2.2.2.1.toList && (bt202.2.2.2.2.2.1 == bt211.2.2.2.2.2.1 && (bt202.2.2.2.2.2.2.1 == bt211.2.2.2.2.2.2.1 && (bt202.2.2.2.2.2.2.2.1 == bt211.2.2.2.2.2.2.2.1 && (bt202.2.2.2.2.2.2.2.2 == bt211.2.2.2.2.2.2.2.2)))))))))))) else (some false)))) else (some false)) else (some false)) else (some false)) = some r := H
            have A32 := Aside0.mk A320
            clear A320
            by_cases c33 : (t178 == t181 && (t179 == t182 && (t180 == t183))) = true
            · rw [if_pos c33] at H
              have c33b0 : (t178 == t181 && (t179 == t182 && (t180 == t183))) = true := c33
              (try (have c33b1 : decide (t178 = t181 && (t179 == t182 && (t180 == t183))) = true := by simpa using c33))
              (try (have c33b2 : (t178 == t181 && (t179 == t182 && (t180 == t183))) = true := by simpa using c33))
              clear c33
              by_cases c34 : (t168 == t173 && (t169 == t174 && (t170 == t175))) = true
              · rw [if_pos c34] at H
                have c34b0 : (t168 == t173 && (t169 == t174 && (t170 == t175))) = true := c34
                (try (have c34b1 : decide (t168 = t173 && (t169 == t174 && (t170 == t175))) = true := by simpa using c34))
                (try (have c34b2 : (t168 == t173 && (t169 == t174 && (t170 == t175))) = true := by simpa using c34))
                clear c34
                by_cases c35 : (t171 == t176) = true
                · rw [if_pos c35] at H
                  have c35b0 : (t171 == t176) = true := c35
                  (try (have c35b1 : decide (t171 = t176) = true := by simpa using c35))
                  (try (have c35b2 : (t171 == t176) = true := by simpa using c35))
                  clear c35
                  replace H := Option.bind_eq_some_iff.mp H
                  obtain ⟨⟨t184, t185, t186, t187, t188, t189, t190, t191, t192⟩, A360, H⟩ := H
                  replace H : ((portreeveref17_Note.f a0_0 a0_1 a0_2 a0_5).bind fun bt193 => (if (t184 == bt193.1 && (t185 == bt193.2.1 && (t186 == bt193.2.2.1 && (t187 == bt193.2.2.2.1 && (t188.toList == bt193.2.2.2.2.1.toList && (t189 == bt193.2.2.2.2.2.1 && (t190 == bt193.2.2.2.2.2.2.1 && (t191 == bt193.2.2.2.2.2.2.2.1 && (t192 == bt193.2.2.2.2.2.2.2.2))))))))) = true then ((meter_Stop.f a0_0 a0_1 a0_2 a0_5 a0_6).bind fun bt202 => ((portreeveref17_Stop.f a0_0 a0_1 a0_2 a0_5 a0_6).bind fun bt211 => (some (bt202.1 == bt211.1 && (bt202.2.1 == bt211.2.1 && (bt202.2.2.1 == bt211.2.2.1 && (bt202.2.2.2.1 == bt211.2.2.2.1 && (bt202.2.2.2.2.1.toList == bt211.2.2.2.2.1.toList && (bt202.2.2.2.2.2.1 == bt211.2.2.2.2.2.1 && (bt202.2.2.2.2.2.2.1 == bt211.2.2.2.2.2.2.1 && (bt202.2.2.2.2.2.2.2.1 == bt211.2.2.2.2.2.2.2.1 && (bt202.2.2.2.2.2.2.2.2 == bt211.2.2.2.2.2.2.2.2)))))))))))) else (some false))) = some r := H
                  have A36 := Aside0.mk A360
                  clear A360
                  replace H := Option.bind_eq_some_iff.mp H
                  obtain ⟨⟨t193, t194, t195, t196, t197, t198, t199, t200, t201⟩, A370, H⟩ := H
                  replace H : (if (t184 == t193 && (t185 == t194 && (t186 == t195 && (t187 == t196 && (t188.toList == t197.toList && (t189 == t198 && (t190 == t199 && (t191 == t200 && (t192 == t201))))))))) = true then ((meter_Stop.f a0_0 a0_1 a0_2 a0_5 a0_6).bind fun bt202 => ((portreeveref17_Stop.f a0_0 a0_1 a0_2 a0_5 a0_6).bind fun bt211 => (some (bt202.1 == bt211.1 && (bt202.2.1 == bt211.2.1 && (bt202.2.2.1 == bt211.2.2.1 && (bt202.2.2.2.1 == bt211.2.2.2.1 && (bt202.2.2.2.2.1.toList == bt211.2.2.2.2.1.toList && (bt202.2.2.2.2.2.1 == bt211.2.2.2.2.2.1 && (bt202.2.2.2.2.2.2.1 == bt211.2.2.2.2.2.2.1 && (bt202.2.2.2.2.2.2.2.1 == bt211.2.2.2.2.2.2.2.1 && (bt202.2.2.2.2.2.2.2.2 == bt211.2.2.2.2.2.2.2.2)))))))))))) else (some false)) = some r := H
                  have A37 := Aside0.mk A370
                  clear A370
                  by_cases c38 : (t184 == t193 && (t185 == t194 && (t186 == t195 && (t187 == t196 && (t188.toList == t197.toList && (t189 == t198 && (t190 == t199 && (t191 == t200 && (t192 == t201))))))))) = true
                  · rw [if_pos c38] at H
                    have c38b0 : (t184 == t193 && (t185 == t194 && (t186 == t195 && (t187 == t196 && (t188.toList == t197.toList && (t189 == t198 && (t190 == t199 && (t191 == t200 && (t192 == t201))))))))) = true := c38
                    (try (have c38b1 : decide (t184 = t193 && (t185 == t194 && (t186 == t195 && (t187 == t196 && (t188.toList == t197.toList && (t189 == t198 && (t190 == t199 && (t191 == t200 && (t192 == t201))))))))) = true := by simpa using c38))
                    (try (have c38b2 : (t184 == t193 && (t185 == t194 && (t186 == t195 && (t187 == t196 && (t188.toList == t197.toList && (t189 == t198 && (t190 == t199 && (t191 == t200 && (t192 == t201))))))))) = true := by simpa using c38))
                    clear c38
                    replace H := Option.bind_eq_some_iff.mp H
                    obtain ⟨⟨t202, t203, t204, t205, t206, t207, t208, t209, t210⟩, A390, H⟩ := H
                    replace H : ((portreeveref17_Stop.f a0_0 a0_1 a0_2 a0_5 a0_6).bind fun bt211 => (some (t202 == bt211.1 && (t203 == bt211.2.1 && (t204 == bt211.2.2.1 && (t205 == bt211.2.2.2.1 && (t206.toList == bt211.2.2.2.2.1.toList && (t207 == bt211.2.2.2.2.2.1 && (t208 == bt211.2.2.2.2.2.2.1 && (t209 == bt211.2.2.2.2.2.2.2.1 && (t210 == bt211.2.2.2.2.2.2.2.2))))))))))) = some r := H
                    have A39 := Aside0.mk A390
                    clear A390
                    replace H := Option.bind_eq_some_iff.mp H
                    obtain ⟨⟨t211, t212, t213, t214, t215, t216, t217, t218, t219⟩, A400, H⟩ := H
                    replace H : (some (t202 == t211 && (t203 == t212 && (t204 == t213 && (t205 == t214 && (t206.toList == t215.toList && (t207 == t216 && (t208 == t217 && (t209 == t218 && (t210 == t219)))))))))) = some r := H
                    have A40 := Aside0.mk A400
                    clear A400
                    clear hlaw_
                    obtain rfl := Option.some.inj H
                    have hnb41 := NB158_157.out
                    have hnc41 := NB157_158.out
                    have hcz42_0 : wc.cell? ⟨gb158, 0, none⟩ = some (.int .u64 a0_0) := (blk_cell BK158.out 0).trans rfl
                    have hcz42_1 : wc.cell? ⟨gb158, 1, none⟩ = some (.int .u64 a0_1) := (blk_cell BK158.out 1).trans rfl
                    have hcz42_2 : wc.cell? ⟨gb158, 2, none⟩ = some (.int .i64 a0_2) := (blk_cell BK158.out 2).trans rfl
                    have hfz42_0 := blk_frozen BK158.out 0
                    have hfz42_1 := blk_frozen BK158.out 1
                    have hfz42_2 := blk_frozen BK158.out 2
                    try go_wp2_with (first | ((with_reducible refine gate_callee (f := 14) rfl ?_); refine goesL_ (some 41) rfl rfl Try.func14 (by kernel_rfl) rfl #[.agg #[.int .u64 a0_0, .int .u64 a0_1, .int .i64 a0_2]] rfl (by (try simp only [List.map_toArray, List.map_cons, List.map_nil]); first | done | rfl | (simp only [List.length_drop, List.length_take]; rfl)) ?_; (with_reducible refine (meter_Tick.calls a0_0 a0_1 a0_2 t168 t169 t170 t171 _ A28.out).mono ?_); rintro e w43 ⟨rfl, hb⟩; refine ⟨_, rfl, ?_⟩; have n0_ := Aside0.mk (blk_below (g := gb157) (o := .cells #[.int .u64 a0_0, .int .u64 a0_1, .int .i64 a0_2, .int .i64 a0_3, .int .i64 a0_4, .int .i64 a0_5, .int .i64 a0_6] 26 (0, 0)) (by (with_reducible repeat (first | refine qN ?_ _ | refine qD ?_ | refine qA ?_ _)); exact BK157.out) hb); have n1_ := Aside0.mk (blk_below (g := gb158) (o := .cells #[.int .u64 a0_0, .int .u64 a0_1, .int .i64 a0_2] 24 (0, 0)) (by (with_reducible repeat (first | refine qN ?_ _ | refine qD ?_ | refine qA ?_ _)); exact BK158.out) hb); have n2_ := Aside0.mk (below_step (by repeat (first | (with_reducible first | exact HB.out | apply pA | apply pN | apply pD | refine pS ?_ GE157.out | refine pS ?_ GE158.out) | exact HB.out)) hb); clear BK157; clear BK158; clear HB; have BK157 := n0_; have BK158 := n1_; have HB := n2_; clear n0_ n1_ n2_; (try clear hb); (try clear hb2); (try clear hk); (try clear hi)) | ((with_reducible refine gate_dst (N := 10) rfl ?_); refine box_event ?hg (N := 10) ?hd (cs := #[.int .u64 0, .int .u64 0, .int .i64 0]) (t := 24) ?hr ?_; (case hd => rfl); (case hg => rfl); (case hr => first | (go_simp; done) | (go_simp; rfl)); intro gb172 hg w44 hbox hb; have n0_ := Aside0.mk (blk_below (g := gb157) (o := .cells #[.int .u64 a0_0, .int .u64 a0_1, .int .i64 a0_2, .int .i64 a0_3, .int .i64 a0_4, .int .i64 a0_5, .int .i64 a0_6] 26 (0, 0)) (by (with_reducible repeat (first | refine qN ?_ _ | refine qD ?_ | refine qA ?_ _)); exact BK157.out) hb); have n1_ := Aside0.mk (blk_below (g := gb158) (o := .cells #[.int .u64 a0_0, .int .u64 a0_1, .int .i64 a0_2] 24 (0, 0)) (by (with_reducible repeat (first | refine qN ?_ _ | refine qD ?_ | refine qA ?_ _)); exact BK158.out) hb); have n2_ := Aside0.mk (below_step (by repeat (first | (with_reducible first | exact HB.out | apply pA | apply pN | apply pD | refine pS ?_ GE157.out | refine pS ?_ GE158.out) | exact HB.out)) hb); have n3_ := Aside0.mk (hbox); have n4_ := Aside0.mk ((by rw [hg]; exact (below_size (by repeat (first | (with_reducible first | exact HB.out | apply pA | apply pN | apply pD | refine pS ?_ GE157.out | refine pS ?_ GE158.out) | exact HB.out))) : w.heap.size ≤ gb172)); have n5_ := Aside0.mk ((by rw [hg]; exact (below_size (by repeat (first | (with_reducible first | exact HB.out | apply pA | apply pN | apply pD | refine pS ?_ GE157.out | refine pS ?_ GE158.out) | exact HB.out))) : w.heap.size ≤ gb172)); have n6_ := Aside0.mk ((by rw [hg]; exact Nat.ne_of_lt (blk_lt (g := gb157) (o := .cells #[.int .u64 a0_0, .int .u64 a0_1, .int .i64 a0_2, .int .i64 a0_3, .int .i64 a0_4, .int .i64 a0_5, .int .i64 a0_6] 26 (0, 0)) (by (with_reducible repeat (first | refine qN ?_ _ | refine qD ?_ | refine qA ?_ _)); exact BK157.out)) : gb157 ≠ gb172)); have n7_ := Aside0.mk ((by rw [hg]; exact Nat.ne_of_gt (blk_lt (g := gb157) (o := .cells #[.int .u64 a0_0, .int .u64 a0_1, .int .i64 a0_2, .int .i64 a0_3, .int .i64 a0_4, .int .i64 a0_5, .int .i64 a0_6] 26 (0, 0)) (by (with_reducible repeat (first | refine qN ?_ _ | refine qD ?_ | refine qA ?_ _)); exact BK157.out)) : gb172 ≠ gb157)); have n8_ := Aside0.mk ((by rw [hg]; exact Nat.ne_of_lt (blk_lt (g := gb158) (o := .cells #[.int .u64 a0_0, .int .u64 a0_1, .int .i64 a0_2] 24 (0, 0)) (by (with_reducible repeat (first | refine qN ?_ _ | refine qD ?_ | refine qA ?_ _)); exact BK158.out)) : gb158 ≠ gb172)); have n9_ := Aside0.mk ((by rw [hg]; exact Nat.ne_of_gt (blk_lt (g := gb158) (o := .cells #[.int .u64 a0_0, .int .u64 a0_1, .int .i64 a0_2] 24 (0, 0)) (by (with_reducible repeat (first | refine qN ?_ _ | refine qD ?_ | refine qA ?_ _)); exact BK158.out)) : gb172 ≠ gb158)); clear BK157; clear BK158; clear HB; have BK157 := n0_; have BK158 := n1_; have HB := n2_; have BK172 := n3_; have GW172 := n4_; have GE172 := n5_; have NB157_172 := n6_; have NB172_157 := n7_; have NB158_172 := n8_; have NB172_158 := n9_; clear n0_ n1_ n2_ n3_ n4_ n5_ n6_ n7_ n8_ n9_; clear hb hbox hg; have hnb45 := NB172_157.out; have hnc45 := NB157_172.out; have hnb46 := NB172_158.out; have hnc46 := NB158_172.out; have hcz47_0 : w44.cell? ⟨gb172, 0, none⟩ = some (.int .u64 0) := (blk_cell BK172.out 0).trans rfl; have hcz47_1 : w44.cell? ⟨gb172, 1, none⟩ = some (.int .u64 0) := (blk_cell BK172.out 1).trans rfl; have hcz47_2 : w44.cell? ⟨gb172, 2, none⟩ = some (.int .i64 0) := (blk_cell BK172.out 2).trans rfl; have hfz47_0 := blk_frozen BK172.out 0; have hfz47_1 := blk_frozen BK172.out 1; have hfz47_2 := blk_frozen BK172.out 2; have hcz48_0 : w44.cell? ⟨gb158, 0, none⟩ = some (.int .u64 a0_0) := (blk_cell BK158.out 0).trans rfl; have hcz48_1 : w44.cell? ⟨gb158, 1, none⟩ = some (.int .u64 a0_1) := (blk_cell BK158.out 1).trans rfl; have hcz48_2 : w44.cell? ⟨gb158, 2, none⟩ = some (.int .i64 a0_2) := (blk_cell BK158.out 2).trans rfl; have hfz48_0 := blk_frozen BK158.out 0; have hfz48_1 := blk_frozen BK158.out 1; have hfz48_2 := blk_frozen BK158.out 2) | ((with_reducible refine gate_callee (f := 15) rfl ?_); refine goesL_ (some 46) rfl rfl Try.func15 (by kernel_rfl) rfl #[.agg #[.int .u64 a0_0, .int .u64 a0_1, .int .i64 a0_2]] rfl (by (try simp only [List.map_toArray, List.map_cons, List.map_nil]); first | done | rfl | (simp only [List.length_drop, List.length_take]; rfl)) ?_; (with_reducible refine (portreeveref17_Tick.calls a0_0 a0_1 a0_2 t173 t174 t175 t176 _ A29.out).mono ?_); rintro e w49 ⟨rfl, hb⟩; refine ⟨_, rfl, ?_⟩; have n0_ := Aside0.mk (blk_below (g := gb157) (o := .cells #[.int .u64 a0_0, .int .u64 a0_1, .int .i64 a0_2, .int .i64 a0_3, .int .i64 a0_4, .int .i64 a0_5, .int .i64 a0_6] 26 (0, 0)) (by (with_reducible repeat (first | refine qN ?_ _ | refine qD ?_ | refine qA ?_ _)); refine blk_far ?_ NB157_172.out _; (with_reducible repeat (first | refine qN ?_ _ | refine qD ?_ | refine qA ?_ _)); refine blk_far ?_ NB157_172.out _; (with_reducible repeat (first | refine qN ?_ _ | refine qD ?_ | refine qA ?_ _)); refine blk_far ?_ NB157_172.out _; (with_reducible repeat (first | refine qN ?_ _ | refine qD ?_ | refine qA ?_ _)); exact BK157.out) hb); have n1_ := Aside0.mk (blk_below (g := gb158) (o := .cells #[.int .u64 a0_0, .int .u64 a0_1, .int .i64 a0_2] 24 (0, 0)) (by (with_reducible repeat (first | refine qN ?_ _ | refine qD ?_ | refine qA ?_ _)); refine blk_far ?_ NB158_172.out _; (with_reducible repeat (first | refine qN ?_ _ | refine qD ?_ | refine qA ?_ _)); refine blk_far ?_ NB158_172.out _; (with_reducible repeat (first | refine qN ?_ _ | refine qD ?_ | refine qA ?_ _)); refine blk_far ?_ NB158_172.out _; (with_reducible repeat (first | refine qN ?_ _ | refine qD ?_ | refine qA ?_ _)); exact BK158.out) hb); have n2_ := Aside0.mk (blk_below (g := gb172) (o := .cells #[.int .u64 t168, .int .u64 t169, .int .i64 t170] 24 (0, 0)) (by (with_reducible repeat (first | refine qN ?_ _ | refine qD ?_ | refine qA ?_ _)); refine blk_put (cs := #[.int .u64 t168, .int .u64 t169, .int .i64 0]) ?_ 2 _ rfl; (with_reducible repeat (first | refine qN ?_ _ | refine qD ?_ | refine qA ?_ _)); refine blk_put (cs := #[.int .u64 t168, .int .u64 0, .int .i64 0]) ?_ 1 _ rfl; (with_reducible repeat (first | refine qN ?_ _ | refine qD ?_ | refine qA ?_ _)); refine blk_put (cs := #[.int .u64 0, .int .u64 0, .int .i64 0]) ?_ 0 _ rfl; (with_reducible repeat (first | refine qN ?_ _ | refine qD ?_ | refine qA ?_ _)); exact BK172.out) hb); have n3_ := Aside0.mk (below_step (by repeat (first | (with_reducible first | exact HB.out | apply pA | apply pN | apply pD | refine pS ?_ GE157.out | refine pS ?_ GE158.out | refine pS ?_ GE172.out) | exact HB.out)) hb); clear BK157; clear BK158; clear BK172; clear HB; have BK157 := n0_; have BK158 := n1_; have BK172 := n2_; have HB := n3_; clear n0_ n1_ n2_ n3_; (try clear hb); (try clear hb2); (try clear hk); (try clear hi)) | ((with_reducible refine gate_dst (N := 12) rfl ?_); refine box_event ?hg (N := 12) ?hd (cs := #[.int .u64 0, .int .u64 0, .int .i64 0]) (t := 24) ?hr ?_; (case hd => rfl); (case hg => rfl); (case hr => first | (go_simp; done) | (go_simp; rfl)); intro gb177 hg w50 hbox hb; have n0_ := Aside0.mk (blk_below (g := gb157) (o := .cells #[.int .u64 a0_0, .int .u64 a0_1, .int .i64 a0_2, .int .i64 a0_3, .int .i64 a0_4, .int .i64 a0_5, .int .i64 a0_6] 26 (0, 0)) (by (with_reducible repeat (first | refine qN ?_ _ | refine qD ?_ | refine qA ?_ _)); exact BK157.out) hb); have n1_ := Aside0.mk (blk_below (g := gb158) (o := .cells #[.int .u64 a0_0, .int .u64 a0_1, .int .i64 a0_2] 24 (0, 0)) (by (with_reducible repeat (first | refine qN ?_ _ | refine qD ?_ | refine qA ?_ _)); exact BK158.out) hb); have n2_ := Aside0.mk (blk_below (g := gb172) (o := .cells #[.int .u64 t168, .int .u64 t169, .int .i64 t170] 24 (0, 0)) (by (with_reducible repeat (first | refine qN ?_ _ | refine qD ?_ | refine qA ?_ _)); exact BK172.out) hb); have n3_ := Aside0.mk (below_step (by repeat (first | (with_reducible first | exact HB.out | apply pA | apply pN | apply pD | refine pS ?_ GE157.out | refine pS ?_ GE158.out | refine pS ?_ GE172.out) | exact HB.out)) hb); have n4_ := Aside0.mk (hbox); have n5_ := Aside0.mk ((by rw [hg]; exact (below_size (by repeat (first | (with_reducible first | exact HB.out | apply pA | apply pN | apply pD | refine pS ?_ GE157.out | refine pS ?_ GE158.out | refine pS ?_ GE172.out) | exact HB.out))) : w.heap.size ≤ gb177)); have n6_ := Aside0.mk ((by rw [hg]; exact (below_size (by repeat (first | (with_reducible first | exact HB.out | apply pA | apply pN | apply pD | refine pS ?_ GE157.out | refine pS ?_ GE158.out | refine pS ?_ GE172.out) | exact HB.out))) : w.heap.size ≤ gb177)); have n7_ := Aside0.mk ((by rw [hg]; exact Nat.ne_of_lt (blk_lt (g := gb157) (o := .cells #[.int .u64 a0_0, .int .u64 a0_1, .int .i64 a0_2, .int .i64 a0_3, .int .i64 a0_4, .int .i64 a0_5, .int .i64 a0_6] 26 (0, 0)) (by (with_reducible repeat (first | refine qN ?_ _ | refine qD ?_ | refine qA ?_ _)); exact BK157.out)) : gb157 ≠ gb177)); have n8_ := Aside0.mk ((by rw [hg]; exact Nat.ne_of_gt (blk_lt (g := gb157) (o := .cells #[.int .u64 a0_0, .int .u64 a0_1, .int .i64 a0_2, .int .i64 a0_3, .int .i64 a0_4, .int .i64 a0_5, .int .i64 a0_6] 26 (0, 0)) (by (with_reducible repeat (first | refine qN ?_ _ | refine qD ?_ | refine qA ?_ _)); exact BK157.out)) : gb177 ≠ gb157)); have n9_ := Aside0.mk ((by rw [hg]; exact Nat.ne_of_lt (blk_lt (g := gb158) (o := .cells #[.int .u64 a0_0, .int .u64 a0_1, .int .i64 a0_2] 24 (0, 0)) (by (with_reducible repeat (first | refine qN ?_ _ | refine qD ?_ | refine qA ?_ _)); exact BK158.out)) : gb158 ≠ gb177)); have n10_ := Aside0.mk ((by rw [hg]; exact Nat.ne_of_gt (blk_lt (g := gb158) (o := .cells #[.int .u64 a0_0, .int .u64 a0_1, .int .i64 a0_2] 24 (0, 0)) (by (with_reducible repeat (first | refine qN ?_ _ | refine qD ?_ | refine qA ?_ _)); exact BK158.out)) : gb177 ≠ gb158)); have n11_ := Aside0.mk ((by rw [hg]; exact Nat.ne_of_lt (blk_lt (g := gb172) (o := .cells #[.int .u64 t168, .int .u64 t169, .int .i64 t170] 24 (0, 0)) (by (with_reducible repeat (first | refine qN ?_ _ | refine qD ?_ | refine qA ?_ _)); exact BK172.out)) : gb172 ≠ gb177)); have n12_ := Aside0.mk ((by rw [hg]; exact Nat.ne_of_gt (blk_lt (g := gb172) (o := .cells #[.int .u64 t168, .int .u64 t169, .int .i64 t170] 24 (0, 0)) (by (with_reducible repeat (first | refine qN ?_ _ | refine qD ?_ | refine qA ?_ _)); exact BK172.out)) : gb177 ≠ gb172)); clear BK157; clear BK158; clear BK172; clear HB; have BK157 := n0_; have BK158 := n1_; have BK172 := n2_; have HB := n3_; have BK177 := n4_; have GW177 := n5_; have GE177 := n6_; have NB157_177 := n7_; have NB177_157 := n8_; have NB158_177 := n9_; have NB177_158 := n10_; have NB172_177 := n11_; have NB177_172 := n12_; clear n0_ n1_ n2_ n3_ n4_ n5_ n6_ n7_ n8_ n9_ n10_ n11_ n12_; clear hb hbox hg; have hnb51 := NB177_157.out; have hnc51 := NB157_177.out; have hnb52 := NB177_158.out; have hnc52 := NB158_177.out; have hnb53 := NB177_172.out; have hnc53 := NB172_177.out; have hcz54_0 : w50.cell? ⟨gb177, 0, none⟩ = some (.int .u64 0) := (blk_cell BK177.out 0).trans rfl; have hcz54_1 : w50.cell? ⟨gb177, 1, none⟩ = some (.int .u64 0) := (blk_cell BK177.out 1).trans rfl; have hcz54_2 : w50.cell? ⟨gb177, 2, none⟩ = some (.int .i64 0) := (blk_cell BK177.out 2).trans rfl; have hfz54_0 := blk_frozen BK177.out 0; have hfz54_1 := blk_frozen BK177.out 1; have hfz54_2 := blk_frozen BK177.out 2))
                    have n0_ : Aside0 ((((w50.setCell ⟨gb177, 0, none⟩ (.int .u64 t173)).setCell ⟨gb177, 1, none⟩ (.int .u64 t174)).setCell ⟨gb177, 2, none⟩ (.int .i64 t175)).heap[gb157]? = some (.cells #[.int .u64 a0_0, .int .u64 a0_1, .int .i64 a0_2, .int .i64 a0_3, .int .i64 a0_4, .int .i64 a0_5, .int .i64 a0_6] 26 (0, 0))) := ⟨by (with_reducible repeat (first | refine qN ?_ _ | refine qD ?_ | refine qA ?_ _)); refine blk_far ?_ NB157_177.out _; (with_reducible repeat (first | refine qN ?_ _ | refine qD ?_ | refine qA ?_ _)); refine blk_far ?_ NB157_177.out _; (with_reducible repeat (first | refine qN ?_ _ | refine qD ?_ | refine qA ?_ _)); refine blk_far ?_ NB157_177.out _; (with_reducible repeat (first | refine qN ?_ _ | refine qD ?_ | refine qA ?_ _)); exact BK157.out⟩
                    have n1_ : Aside0 ((((w50.setCell ⟨gb177, 0, none⟩ (.int .u64 t173)).setCell ⟨gb177, 1, none⟩ (.int .u64 t174)).setCell ⟨gb177, 2, none⟩ (.int .i64 t175)).heap[gb158]? = some (.cells #[.int .u64 a0_0, .int .u64 a0_1, .int .i64 a0_2] 24 (0, 0))) := ⟨by (with_reducible repeat (first | refine qN ?_ _ | refine qD ?_ | refine qA ?_ _)); refine blk_far ?_ NB158_177.out _; (with_reducible repeat (first | refine qN ?_ _ | refine qD ?_ | refine qA ?_ _)); refine blk_far ?_ NB158_177.out _; (with_reducible repeat (first | refine qN ?_ _ | refine qD ?_ | refine qA ?_ _)); refine blk_far ?_ NB158_177.out _; (with_reducible repeat (first | refine qN ?_ _ | refine qD ?_ | refine qA ?_ _)); exact BK158.out⟩
                    have n2_ : Aside0 ((((w50.setCell ⟨gb177, 0, none⟩ (.int .u64 t173)).setCell ⟨gb177, 1, none⟩ (.int .u64 t174)).setCell ⟨gb177, 2, none⟩ (.int .i64 t175)).heap[gb172]? = some (.cells #[.int .u64 t168, .int .u64 t169, .int .i64 t170] 24 (0, 0))) := ⟨by (with_reducible repeat (first | refine qN ?_ _ | refine qD ?_ | refine qA ?_ _)); refine blk_far ?_ NB172_177.out _; (with_reducible repeat (first | refine qN ?_ _ | refine qD ?_ | refine qA ?_ _)); refine blk_far ?_ NB172_177.out _; (with_reducible repeat (first | refine qN ?_ _ | refine qD ?_ | refine qA ?_ _)); refine blk_far ?_ NB172_177.out _; (with_reducible repeat (first | refine qN ?_ _ | refine qD ?_ | refine qA ?_ _)); exact BK172.out⟩
                    have n3_ : Aside0 ((((w50.setCell ⟨gb177, 0, none⟩ (.int .u64 t173)).setCell ⟨gb177, 1, none⟩ (.int .u64 t174)).setCell ⟨gb177, 2, none⟩ (.int .i64 t175)).heap[gb177]? = some (.cells #[.int .u64 t173, .int .u64 t174, .int .i64 t175] 24 (0, 0))) := ⟨by (with_reducible repeat (first | refine qN ?_ _ | refine qD ?_ | refine qA ?_ _)); refine blk_put (cs := #[.int .u64 t173, .int .u64 t174, .int .i64 0]) ?_ 2 _ rfl; (with_reducible repeat (first | refine qN ?_ _ | refine qD ?_ | refine qA ?_ _)); refine blk_put (cs := #[.int .u64 t173, .int .u64 0, .int .i64 0]) ?_ 1 _ rfl; (with_reducible repeat (first | refine qN ?_ _ | refine qD ?_ | refine qA ?_ _)); refine blk_put (cs := #[.int .u64 0, .int .u64 0, .int .i64 0]) ?_ 0 _ rfl; (with_reducible repeat (first | refine qN ?_ _ | refine qD ?_ | refine qA ?_ _)); exact BK177.out⟩
                    have n4_ : Aside0 (Below w.heap.size w (((w50.setCell ⟨gb177, 0, none⟩ (.int .u64 t173)).setCell ⟨gb177, 1, none⟩ (.int .u64 t174)).setCell ⟨gb177, 2, none⟩ (.int .i64 t175))) := ⟨by repeat (first | (with_reducible first | exact HB.out | apply pA | apply pN | apply pD | refine pS ?_ GE157.out | refine pS ?_ GE158.out | refine pS ?_ GE172.out | refine pS ?_ GE177.out) | exact HB.out)⟩
                    (try clear BK157)
                    (try clear BK158)
                    (try clear BK172)
                    (try clear BK177)
                    (try clear HB)
                    generalize (((w50.setCell ⟨gb177, 0, none⟩ (.int .u64 t173)).setCell ⟨gb177, 1, none⟩ (.int .u64 t174)).setCell ⟨gb177, 2, none⟩ (.int .i64 t175)) = w55 at n0_ n1_ n2_ n3_ n4_ ⊢
                    have BK157 := n0_
                    have BK158 := n1_
                    have BK172 := n2_
                    have BK177 := n3_
                    have HB := n4_
                    clear n0_ n1_ n2_ n3_ n4_
                    have n0_ := Aside0.mk (qD BK157.out)
                    have n1_ := Aside0.mk (qD BK158.out)
                    have n2_ := Aside0.mk (qD BK172.out)
                    have n3_ := Aside0.mk (qD BK177.out)
                    have n4_ := Aside0.mk (pD HB.out)
                    clear BK157
                    clear BK158
                    clear BK172
                    clear BK177
                    clear HB
                    have BK157 := n0_
                    have BK158 := n1_
                    have BK172 := n2_
                    have BK177 := n3_
                    have HB := n4_
                    clear n0_ n1_ n2_ n3_ n4_
                    refine start_ (n := 43) (S := fun w' => w'.cell? ⟨gb158, 0, none⟩ = some (.int .u64 a0_0) ∧ w'.cell? ⟨gb158, 1, none⟩ = some (.int .u64 a0_1) ∧ w'.cell? ⟨gb158, 2, none⟩ = some (.int .i64 a0_2) ∧ w'.cell? ⟨gb172, 0, none⟩ = some (.int .u64 t168) ∧ w'.cell? ⟨gb172, 1, none⟩ = some (.int .u64 t169) ∧ w'.cell? ⟨gb172, 2, none⟩ = some (.int .i64 t170) ∧ w'.cell? ⟨gb177, 0, none⟩ = some (.int .u64 t173) ∧ w'.cell? ⟨gb177, 1, none⟩ = some (.int .u64 t174) ∧ w'.cell? ⟨gb177, 2, none⟩ = some (.int .i64 t175)) (ds := []) #[false, false, false, false, false, false, false, false, false, false, false, false, false, false, false, false, false, false, false, false, false, false, false, false, false, false, false, false, false, false, false, false, false, false, false, false, false, false, false, false, false, false, false] (by kernel_rfl) rfl rfl ⟨(blk_cell BK158.out 0).trans rfl, (blk_cell BK158.out 1).trans rfl, (blk_cell BK158.out 2).trans rfl, (blk_cell BK172.out 0).trans rfl, (blk_cell BK172.out 1).trans rfl, (blk_cell BK172.out 2).trans rfl, (blk_cell BK177.out 0).trans rfl, (blk_cell BK177.out 1).trans rfl, (blk_cell BK177.out 2).trans rfl⟩ (fun hHeld => ?_); refine with_tabW portreevelaw17_MeterTells.tab14 portreevelaw17_MeterTells.bits14 (fun HT_ HW_ => ?_)
                    generalize w55.drew = w56 at BK157 BK158 BK172 BK177 HB hHeld ⊢
                    refine pure_ (i := 0) (N := some 49) (v := ?_) (a' := ?_) #[true, false, false, false, false, false, false, false, false, false, false, false, false, false, false, false, false, false, false, false, false, false, false, false, false, false, false, false, false, false, false, false, false, false, false, false, false, false, false, false, false, false, false] rfl rfl (any_of HT_.out (by kernel_rfl)) (fun _ _ _ h => h) (Or.inl ⟨by rfl, ?_⟩) ?_ ?_
                    rotate_left
                    · intro w'
                      go_simp
                      with_reducible rfl
                    rotate_left
                    · simp only [Act.put, List.setIfInBounds_toArray, List.set_cons_zero, List.set_cons_succ, i64_w, i32_w]
                      rfl
                    refine pure_ (i := 1) (N := some 50) (v := ?_) (a' := ?_) #[true, true, false, false, false, false, false, false, false, false, false, false, false, false, false, false, false, false, false, false, false, false, false, false, false, false, false, false, false, false, false, false, false, false, false, false, false, false, false, false, false, false, false] rfl rfl (any_of HT_.out (by kernel_rfl)) (fun _ _ _ h => h) (Or.inl ⟨by rfl, ?_⟩) ?_ ?_
                    rotate_left
                    · intro w'
                      go_simp
                      with_reducible rfl
                    rotate_left
                    · simp only [Act.put, List.setIfInBounds_toArray, List.set_cons_zero, List.set_cons_succ, i64_w, i32_w]
                      rfl
                    refine pure_ (i := 3) (N := some 52) (v := ?_) (a' := ?_) #[true, true, false, true, false, false, false, false, false, false, false, false, false, false, false, false, false, false, false, false, false, false, false, false, false, false, false, false, false, false, false, false, false, false, false, false, false, false, false, false, false, false, false] rfl rfl (any_of HT_.out (by kernel_rfl)) (fun _ _ _ h => h) (Or.inl ⟨by rfl, ?_⟩) ?_ ?_
                    rotate_left
                    · intro w'
                      go_simp
                      with_reducible rfl
                    rotate_left
                    · simp only [Act.put, List.setIfInBounds_toArray, List.set_cons_zero, List.set_cons_succ, i64_w, i32_w]
                      rfl
                    refine pure_ (i := 4) (N := some 53) (v := ?_) (a' := ?_) #[true, true, false, true, true, false, false, false, false, false, false, false, false, false, false, false, false, false, false, false, false, false, false, false, false, false, false, false, false, false, false, false, false, false, false, false, false, false, false, false, false, false, false] rfl rfl (any_of HT_.out (by kernel_rfl)) (fun _ _ _ h => h) (Or.inl ⟨by rfl, ?_⟩) ?_ ?_
                    rotate_left
                    · intro w'
                      go_simp
                      with_reducible rfl
                    rotate_left
                    · simp only [Act.put, List.setIfInBounds_toArray, List.set_cons_zero, List.set_cons_succ, i64_w, i32_w]
                      rfl
                    refine pure_ (i := 7) (N := some 56) (v := ?_) (a' := ?_) #[true, true, false, true, true, false, false, true, false, false, false, false, false, false, false, false, false, false, false, false, false, false, false, false, false, false, false, false, false, false, false, false, false, false, false, false, false, false, false, false, false, false, false] rfl rfl (any_of HT_.out (by kernel_rfl)) (fun _ _ _ h => h) (Or.inl ⟨by rfl, ?_⟩) ?_ ?_
                    rotate_left
                    · intro w'
                      go_simp
                      with_reducible rfl
                    rotate_left
                    · simp only [Act.put, List.setIfInBounds_toArray, List.set_cons_zero, List.set_cons_succ, i64_w, i32_w]
                      rfl
                    refine pure_ (i := 8) (N := some 57) (v := ?_) (a' := ?_) #[true, true, false, true, true, false, false, true, true, false, false, false, false, false, false, false, false, false, false, false, false, false, false, false, false, false, false, false, false, false, false, false, false, false, false, false, false, false, false, false, false, false, false] rfl rfl (any_of HT_.out (by kernel_rfl)) (fun _ _ _ h => h) (Or.inl ⟨by rfl, ?_⟩) ?_ ?_
                    rotate_left
                    · intro w'
                      go_simp
                      with_reducible rfl
                    rotate_left
                    · simp only [Act.put, List.setIfInBounds_toArray, List.set_cons_zero, List.set_cons_succ, i64_w, i32_w]
                      rfl
                    refine take_ (i := 2) (N := some 51) (v := ?_) (a' := ?_) #[true, true, true, true, true, false, false, true, true, false, false, false, false, false, false, false, false, false, false, false, false, false, false, false, false, false, false, false, false, false, false, false, false, false, false, false, false, false, false, false, false, false, false] rfl rfl (take_ofW HT_.out HW_.out (by kernel_rfl)) (fun _ _ _ h => h) (Or.inl ⟨by rfl, ?_⟩) hHeld ?_ ?_
                    rotate_left
                    · rintro w' ⟨s0, s1, s2, s3, s4, s5, s6, s7, s8⟩
                      go_simp
                      with_reducible rfl
                    rotate_left
                    · simp only [Act.put, List.setIfInBounds_toArray, List.set_cons_zero, List.set_cons_succ, i64_w, i32_w]
                      rfl
                    refine take_ (i := 6) (N := some 55) (v := ?_) (a' := ?_) #[true, true, true, true, true, false, true, true, true, false, false, false, false, false, false, false, false, false, false, false, false, false, false, false, false, false, false, false, false, false, false, false, false, false, false, false, false, false, false, false, false, false, false] rfl rfl (take_ofW HT_.out HW_.out (by kernel_rfl)) (fun _ _ _ h => h) (Or.inl ⟨by rfl, ?_⟩) hHeld ?_ ?_
                    rotate_left
                    · rintro w' ⟨s0, s1, s2, s3, s4, s5, s6, s7, s8⟩
                      go_simp
                      with_reducible rfl
                    rotate_left
                    · simp only [Act.put, List.setIfInBounds_toArray, List.set_cons_zero, List.set_cons_succ, i64_w, i32_w]
                      rfl
                    refine one_ (i := 5) (N := some 54) #[true, true, true, true, true, true, true, true, true, false, false, false, false, false, false, false, false, false, false, false, false, false, false, false, false, false, false, false, false, false, false, false, false, false, false, false, false, false, false, false, false, false, false] rfl rfl (one_of HT_.out (by kernel_rfl)) (by decide) (fun K hK => ?_)
                    refine goes_ Try.func16 (by kernel_rfl) rfl #[.agg #[.int .u64 a0_0, .int .u64 a0_1, .int .i64 a0_2], .int .i64 a0_3, .int .i64 a0_4] (by rfl) rfl rfl (by (try simp only [List.map_toArray, List.map_cons, List.map_nil]); first | done | rfl | (simp only [List.length_drop, List.length_take]; rfl)) ?_
                    with_reducible refine (meter_Count.calls a0_0 a0_1 a0_2 a0_3 a0_4 t178 t179 t180 _ A31.out).mono ?_
                    rintro e w57 ⟨rfl, hb⟩
                    refine ⟨_, rfl, ?_⟩
                    have n0_ := Aside0.mk (blk_below (g := gb157) (o := .cells #[.int .u64 a0_0, .int .u64 a0_1, .int .i64 a0_2, .int .i64 a0_3, .int .i64 a0_4, .int .i64 a0_5, .int .i64 a0_6] 26 (0, 0)) (by (with_reducible repeat (first | refine qN ?_ _ | refine qD ?_ | refine qA ?_ _)); exact BK157.out) hb)
                    have n1_ := Aside0.mk (blk_below (g := gb158) (o := .cells #[.int .u64 a0_0, .int .u64 a0_1, .int .i64 a0_2] 24 (0, 0)) (by (with_reducible repeat (first | refine qN ?_ _ | refine qD ?_ | refine qA ?_ _)); exact BK158.out) hb)
                    have n2_ := Aside0.mk (blk_below (g := gb172) (o := .cells #[.int .u64 t168, .int .u64 t169, .int .i64 t170] 24 (0, 0)) (by (with_reducible repeat (first | refine qN ?_ _ | refine qD ?_ | refine qA ?_ _)); exact BK172.out) hb)
                    have n3_ := Aside0.mk (blk_below (g := gb177) (o := .cells #[.int .u64 t173, .int .u64 t174, .int .i64 t175] 24 (0, 0)) (by (with_reducible repeat (first | refine qN ?_ _ | refine qD ?_ | refine qA ?_ _)); exact BK177.out) hb)
                    have n4_ := Aside0.mk (below_step (by repeat (first | (with_reducible first | exact HB.out | apply pA | apply pN | apply pD | refine pS ?_ GE157.out | refine pS ?_ GE158.out | refine pS ?_ GE172.out | refine pS ?_ GE177.out) | exact HB.out)) hb)
                    clear BK157
                    clear BK158
                    clear BK172
                    clear BK177
                    clear HB
                    have BK157 := n0_
                    have BK158 := n1_
                    have BK172 := n2_
                    have BK177 := n3_
                    have HB := n4_
                    clear n0_ n1_ n2_ n3_ n4_
                    (try clear hb)
                    (try clear hb2)
                    (try clear hk)
                    (try clear hi)
                    refine hK.out _ _ ⟨(blk_cell BK158.out 0).trans rfl, (blk_cell BK158.out 1).trans rfl, (blk_cell BK158.out 2).trans rfl, (blk_cell BK172.out 0).trans rfl, (blk_cell BK172.out 1).trans rfl, (blk_cell BK172.out 2).trans rfl, (blk_cell BK177.out 0).trans rfl, (blk_cell BK177.out 1).trans rfl, (blk_cell BK177.out 2).trans rfl⟩ (fun hHeld => ?_)
                    clear hK K
                    refine norm_ (a' := ?_) ?_ ?_
                    rotate_left
                    · show Act.put _ (some 54) _ = _
                      simp only [Act.put, List.setIfInBounds_toArray, List.set_cons_zero, List.set_cons_succ, i64_w, i32_w]
                      rfl
                    refine one_ (i := 9) (N := some 58) #[true, true, true, true, true, true, true, true, true, true, false, false, false, false, false, false, false, false, false, false, false, false, false, false, false, false, false, false, false, false, false, false, false, false, false, false, false, false, false, false, false, false, false] rfl rfl (one_of HT_.out (by kernel_rfl)) (by decide) (fun K hK => ?_)
                    refine goes_ Try.func17 (by kernel_rfl) rfl #[.agg #[.int .u64 a0_0, .int .u64 a0_1, .int .i64 a0_2], .int .i64 a0_3, .int .i64 a0_4] (by rfl) rfl rfl (by (try simp only [List.map_toArray, List.map_cons, List.map_nil]); first | done | rfl | (simp only [List.length_drop, List.length_take]; rfl)) ?_
                    with_reducible refine (portreeveref17_Count.calls a0_0 a0_1 a0_2 a0_3 a0_4 t181 t182 t183 _ A32.out).mono ?_
                    rintro e w58 ⟨rfl, hb⟩
                    refine ⟨_, rfl, ?_⟩
                    have n0_ := Aside0.mk (blk_below (g := gb157) (o := .cells #[.int .u64 a0_0, .int .u64 a0_1, .int .i64 a0_2, .int .i64 a0_3, .int .i64 a0_4, .int .i64 a0_5, .int .i64 a0_6] 26 (0, 0)) (by (with_reducible repeat (first | refine qN ?_ _ | refine qD ?_ | refine qA ?_ _)); exact BK157.out) hb)
                    have n1_ := Aside0.mk (blk_below (g := gb158) (o := .cells #[.int .u64 a0_0, .int .u64 a0_1, .int .i64 a0_2] 24 (0, 0)) (by (with_reducible repeat (first | refine qN ?_ _ | refine qD ?_ | refine qA ?_ _)); exact BK158.out) hb)
                    have n2_ := Aside0.mk (blk_below (g := gb172) (o := .cells #[.int .u64 t168, .int .u64 t169, .int .i64 t170] 24 (0, 0)) (by (with_reducible repeat (first | refine qN ?_ _ | refine qD ?_ | refine qA ?_ _)); exact BK172.out) hb)
                    have n3_ := Aside0.mk (blk_below (g := gb177) (o := .cells #[.int .u64 t173, .int .u64 t174, .int .i64 t175] 24 (0, 0)) (by (with_reducible repeat (first | refine qN ?_ _ | refine qD ?_ | refine qA ?_ _)); exact BK177.out) hb)
                    have n4_ := Aside0.mk (below_step (by repeat (first | (with_reducible first | exact HB.out | apply pA | apply pN | apply pD | refine pS ?_ GE157.out | refine pS ?_ GE158.out | refine pS ?_ GE172.out | refine pS ?_ GE177.out) | exact HB.out)) hb)
                    clear BK157
                    clear BK158
                    clear BK172
                    clear BK177
                    clear HB
                    have BK157 := n0_
                    have BK158 := n1_
                    have BK172 := n2_
                    have BK177 := n3_
                    have HB := n4_
                    clear n0_ n1_ n2_ n3_ n4_
                    (try clear hb)
                    (try clear hb2)
                    (try clear hk)
                    (try clear hi)
                    refine hK.out _ _ ⟨(blk_cell BK158.out 0).trans rfl, (blk_cell BK158.out 1).trans rfl, (blk_cell BK158.out 2).trans rfl, (blk_cell BK172.out 0).trans rfl, (blk_cell BK172.out 1).trans rfl, (blk_cell BK172.out 2).trans rfl, (blk_cell BK177.out 0).trans rfl, (blk_cell BK177.out 1).trans rfl, (blk_cell BK177.out 2).trans rfl⟩ (fun hHeld => ?_)
                    clear hK K
                    refine norm_ (a' := ?_) ?_ ?_
                    rotate_left
                    · show Act.put _ (some 58) _ = _
                      simp only [Act.put, List.setIfInBounds_toArray, List.set_cons_zero, List.set_cons_succ, i64_w, i32_w]
                      rfl
                    refine pure_ (i := 10) (N := some 59) (v := ?_) (a' := ?_) #[true, true, true, true, true, true, true, true, true, true, true, false, false, false, false, false, false, false, false, false, false, false, false, false, false, false, false, false, false, false, false, false, false, false, false, false, false, false, false, false, false, false, false] rfl rfl (any_of HT_.out (by kernel_rfl)) (fun _ _ _ h => h) (Or.inl ⟨by rfl, ?_⟩) ?_ ?_
                    rotate_left
                    · intro w'
                      go_simp
                      with_reducible rfl
                    rotate_left
                    · simp only [Act.put, List.setIfInBounds_toArray, List.set_cons_zero, List.set_cons_succ, i64_w, i32_w]
                      rfl
                    refine pure_ (i := 11) (N := some 60) (v := ?_) (a' := ?_) #[true, true, true, true, true, true, true, true, true, true, true, true, false, false, false, false, false, false, false, false, false, false, false, false, false, false, false, false, false, false, false, false, false, false, false, false, false, false, false, false, false, false, false] rfl rfl (any_of HT_.out (by kernel_rfl)) (fun _ _ _ h => h) (Or.inl ⟨by rfl, ?_⟩) ?_ ?_
                    rotate_left
                    · intro w'
                      go_simp
                      with_reducible rfl
                    rotate_left
                    · simp only [Act.put, List.setIfInBounds_toArray, List.set_cons_zero, List.set_cons_succ, i64_w, i32_w]
                      rfl
                    refine pure_ (i := 12) (N := some 61) (v := ?_) (a' := ?_) #[true, true, true, true, true, true, true, true, true, true, true, true, true, false, false, false, false, false, false, false, false, false, false, false, false, false, false, false, false, false, false, false, false, false, false, false, false, false, false, false, false, false, false] rfl rfl (any_of HT_.out (by kernel_rfl)) (fun _ _ _ h => h) (Or.inl ⟨by rfl, ?_⟩) ?_ ?_
                    rotate_left
                    · intro w'
                      go_simp
                      with_reducible rfl
                    rotate_left
                    · simp only [Act.put, List.setIfInBounds_toArray, List.set_cons_zero, List.set_cons_succ, i64_w, i32_w]
                      rfl
                    refine take_ (i := 13) (N := some 62) (v := ?_) (a' := ?_) #[true, true, true, true, true, true, true, true, true, true, true, true, true, true, false, false, false, false, false, false, false, false, false, false, false, false, false, false, false, false, false, false, false, false, false, false, false, false, false, false, false, false, false] rfl rfl (take_ofW HT_.out HW_.out (by kernel_rfl)) (fun _ _ _ h => h) (Or.inl ⟨by rfl, ?_⟩) hHeld ?_ ?_
                    rotate_left
                    · rintro w' ⟨s0, s1, s2, s3, s4, s5, s6, s7, s8⟩
                      go_simp
                      with_reducible rfl
                    rotate_left
                    · simp only [Act.put, List.setIfInBounds_toArray, List.set_cons_zero, List.set_cons_succ, i64_w, i32_w]
                      rfl
                    refine take_ (i := 14) (N := some 63) (v := ?_) (a' := ?_) #[true, true, true, true, true, true, true, true, true, true, true, true, true, true, true, false, false, false, false, false, false, false, false, false, false, false, false, false, false, false, false, false, false, false, false, false, false, false, false, false, false, false, false] rfl rfl (take_ofW HT_.out HW_.out (by kernel_rfl)) (fun _ _ _ h => h) (Or.inl ⟨by rfl, ?_⟩) hHeld ?_ ?_
                    rotate_left
                    · rintro w' ⟨s0, s1, s2, s3, s4, s5, s6, s7, s8⟩
                      go_simp
                      with_reducible rfl
                    rotate_left
                    · simp only [Act.put, List.setIfInBounds_toArray, List.set_cons_zero, List.set_cons_succ, i64_w, i32_w]
                      rfl
                    refine pure_ (i := 15) (N := some 64) (v := ?_) (a' := ?_) #[true, true, true, true, true, true, true, true, true, true, true, true, true, true, true, true, false, false, false, false, false, false, false, false, false, false, false, false, false, false, false, false, false, false, false, false, false, false, false, false, false, false, false] rfl rfl (any_of HT_.out (by kernel_rfl)) (fun _ _ _ h => h) (Or.inl ⟨by rfl, ?_⟩) ?_ ?_
                    rotate_left
                    · intro w'
                      go_simp
                      with_reducible rfl
                    rotate_left
                    · simp only [Act.put, List.setIfInBounds_toArray, List.set_cons_zero, List.set_cons_succ, i64_w, i32_w]
                      rfl
                    refine pure_ (i := 16) (N := some 65) (v := ?_) (a' := ?_) #[true, true, true, true, true, true, true, true, true, true, true, true, true, true, true, true, true, false, false, false, false, false, false, false, false, false, false, false, false, false, false, false, false, false, false, false, false, false, false, false, false, false, false] rfl rfl (any_of HT_.out (by kernel_rfl)) (fun _ _ _ h => h) (Or.inl ⟨by rfl, ?_⟩) ?_ ?_
                    rotate_left
                    · intro w'
                      go_simp
                      with_reducible rfl
                    rotate_left
                    · simp only [Act.put, List.setIfInBounds_toArray, List.set_cons_zero, List.set_cons_succ, i64_w, i32_w]
                      rfl
                    refine pure_ (i := 17) (N := some 66) (v := ?_) (a' := ?_) #[true, true, true, true, true, true, true, true, true, true, true, true, true, true, true, true, true, true, false, false, false, false, false, false, false, false, false, false, false, false, false, false, false, false, false, false, false, false, false, false, false, false, false] rfl rfl (any_of HT_.out (by kernel_rfl)) (fun _ _ _ h => h) (Or.inl ⟨by rfl, ?_⟩) ?_ ?_
                    rotate_left
                    · intro w'
                      go_simp
                      with_reducible rfl
                    rotate_left
                    · simp only [Act.put, List.setIfInBounds_toArray, List.set_cons_zero, List.set_cons_succ, i64_w, i32_w]
                      rfl
                    refine pure_ (i := 18) (N := some 67) (v := ?_) (a' := ?_) #[true, true, true, true, true, true, true, true, true, true, true, true, true, true, true, true, true, true, true, false, false, false, false, false, false, false, false, false, false, false, false, false, false, false, false, false, false, false, false, false, false, false, false] rfl rfl (any_of HT_.out (by kernel_rfl)) (fun _ _ _ h => h) (Or.inl ⟨by rfl, ?_⟩) ?_ ?_
                    rotate_left
                    · intro w'
                      go_simp
                      with_reducible rfl
                    rotate_left
                    · simp only [Act.put, List.setIfInBounds_toArray, List.set_cons_zero, List.set_cons_succ, i64_w, i32_w]
                      rfl
                    refine pure_ (i := 19) (N := some 68) (v := ?_) (a' := ?_) #[true, true, true, true, true, true, true, true, true, true, true, true, true, true, true, true, true, true, true, true, false, false, false, false, false, false, false, false, false, false, false, false, false, false, false, false, false, false, false, false, false, false, false] rfl rfl (any_of HT_.out (by kernel_rfl)) (fun _ _ _ h => h) (Or.inl ⟨by rfl, ?_⟩) ?_ ?_
                    rotate_left
                    · intro w'
                      go_simp
                      with_reducible rfl
                    rotate_left
                    · simp only [Act.put, List.setIfInBounds_toArray, List.set_cons_zero, List.set_cons_succ, i64_w, i32_w]
                      rfl
                    refine pure_ (i := 20) (N := some 69) (v := ?_) (a' := ?_) #[true, true, true, true, true, true, true, true, true, true, true, true, true, true, true, true, true, true, true, true, true, false, false, false, false, false, false, false, false, false, false, false, false, false, false, false, false, false, false, false, false, false, false] rfl rfl (any_of HT_.out (by kernel_rfl)) (fun _ _ _ h => h) (Or.inl ⟨by rfl, ?_⟩) ?_ ?_
                    rotate_left
                    · intro w'
                      go_simp
                      with_reducible rfl
                    rotate_left
                    · simp only [Act.put, List.setIfInBounds_toArray, List.set_cons_zero, List.set_cons_succ, i64_w, i32_w]
                      rfl
                    refine pure_ (i := 21) (N := some 70) (v := ?_) (a' := ?_) #[true, true, true, true, true, true, true, true, true, true, true, true, true, true, true, true, true, true, true, true, true, true, false, false, false, false, false, false, false, false, false, false, false, false, false, false, false, false, false, false, false, false, false] rfl rfl (any_of HT_.out (by kernel_rfl)) (fun _ _ _ h => h) (Or.inl ⟨by rfl, ?_⟩) ?_ ?_
                    rotate_left
                    · intro w'
                      go_simp
                      with_reducible rfl
                    rotate_left
                    · simp only [Act.put, List.setIfInBounds_toArray, List.set_cons_zero, List.set_cons_succ, i64_w, i32_w]
                      rfl
                    refine pure_ (i := 22) (N := some 71) (v := ?_) (a' := ?_) #[true, true, true, true, true, true, true, true, true, true, true, true, true, true, true, true, true, true, true, true, true, true, true, false, false, false, false, false, false, false, false, false, false, false, false, false, false, false, false, false, false, false, false] rfl rfl (any_of HT_.out (by kernel_rfl)) (fun _ _ _ h => h) (Or.inl ⟨by rfl, ?_⟩) ?_ ?_
                    rotate_left
                    · intro w'
                      go_simp
                      with_reducible rfl
                    rotate_left
                    · simp only [Act.put, List.setIfInBounds_toArray, List.set_cons_zero, List.set_cons_succ, i64_w, i32_w]
                      rfl
                    refine pure_ (i := 24) (N := some 73) (v := ?_) (a' := ?_) #[true, true, true, true, true, true, true, true, true, true, true, true, true, true, true, true, true, true, true, true, true, true, true, false, true, false, false, false, false, false, false, false, false, false, false, false, false, false, false, false, false, false, false] rfl rfl (any_of HT_.out (by kernel_rfl)) (fun _ _ _ h => h) (Or.inl ⟨by rfl, ?_⟩) ?_ ?_
                    rotate_left
                    · intro w'
                      go_simp
                      with_reducible rfl
                    rotate_left
                    · simp only [Act.put, List.setIfInBounds_toArray, List.set_cons_zero, List.set_cons_succ, i64_w, i32_w]
                      rfl
                    refine pure_ (i := 27) (N := some 76) (v := ?_) (a' := ?_) #[true, true, true, true, true, true, true, true, true, true, true, true, true, true, true, true, true, true, true, true, true, true, true, false, true, false, false, true, false, false, false, false, false, false, false, false, false, false, false, false, false, false, false] rfl rfl (any_of HT_.out (by kernel_rfl)) (fun _ _ _ h => h) (Or.inl ⟨by rfl, ?_⟩) ?_ ?_
                    rotate_left
                    · intro w'
                      go_simp
                      with_reducible rfl
                    rotate_left
                    · simp only [Act.put, List.setIfInBounds_toArray, List.set_cons_zero, List.set_cons_succ, i64_w, i32_w]
                      rfl
                    refine take_ (i := 23) (N := some 72) (v := ?_) (a' := ?_) #[true, true, true, true, true, true, true, true, true, true, true, true, true, true, true, true, true, true, true, true, true, true, true, true, true, false, false, true, false, false, false, false, false, false, false, false, false, false, false, false, false, false, false] rfl rfl (take_ofW HT_.out HW_.out (by kernel_rfl)) (fun _ _ _ h => h) (Or.inl ⟨by rfl, ?_⟩) hHeld ?_ ?_
                    rotate_left
                    · rintro w' ⟨s0, s1, s2, s3, s4, s5, s6, s7, s8⟩
                      go_simp
                      with_reducible rfl
                    rotate_left
                    · simp only [Act.put, List.setIfInBounds_toArray, List.set_cons_zero, List.set_cons_succ, i64_w, i32_w]
                      rfl
                    refine take_ (i := 26) (N := some 75) (v := ?_) (a' := ?_) #[true, true, true, true, true, true, true, true, true, true, true, true, true, true, true, true, true, true, true, true, true, true, true, true, true, false, true, true, false, false, false, false, false, false, false, false, false, false, false, false, false, false, false] rfl rfl (take_ofW HT_.out HW_.out (by kernel_rfl)) (fun _ _ _ h => h) (Or.inl ⟨by rfl, ?_⟩) hHeld ?_ ?_
                    rotate_left
                    · rintro w' ⟨s0, s1, s2, s3, s4, s5, s6, s7, s8⟩
                      go_simp
                      with_reducible rfl
                    rotate_left
                    · simp only [Act.put, List.setIfInBounds_toArray, List.set_cons_zero, List.set_cons_succ, i64_w, i32_w]
                      rfl
                    refine one_ (i := 25) (N := some 74) #[true, true, true, true, true, true, true, true, true, true, true, true, true, true, true, true, true, true, true, true, true, true, true, true, true, true, true, true, false, false, false, false, false, false, false, false, false, false, false, false, false, false, false] rfl rfl (one_of HT_.out (by kernel_rfl)) (by decide) (fun K hK => ?_)
                    refine goes_ Try.func18 (by kernel_rfl) rfl #[.agg #[.int .u64 a0_0, .int .u64 a0_1, .int .i64 a0_2], .int .i64 a0_5] (by rfl) rfl rfl (by (try simp only [List.map_toArray, List.map_cons, List.map_nil]); first | done | rfl | (simp only [List.length_drop, List.length_take]; rfl)) ?_
                    with_reducible refine (meter_Note.calls a0_0 a0_1 a0_2 a0_5 t184 t185 t186 t187 t188 t189 t190 t191 t192 _ A36.out).mono ?_
                    rintro e w59 ⟨rfl, hb⟩
                    refine ⟨_, rfl, ?_⟩
                    have n0_ := Aside0.mk (blk_below (g := gb157) (o := .cells #[.int .u64 a0_0, .int .u64 a0_1, .int .i64 a0_2, .int .i64 a0_3, .int .i64 a0_4, .int .i64 a0_5, .int .i64 a0_6] 26 (0, 0)) (by (with_reducible repeat (first | refine qN ?_ _ | refine qD ?_ | refine qA ?_ _)); exact BK157.out) hb)
                    have n1_ := Aside0.mk (blk_below (g := gb158) (o := .cells #[.int .u64 a0_0, .int .u64 a0_1, .int .i64 a0_2] 24 (0, 0)) (by (with_reducible repeat (first | refine qN ?_ _ | refine qD ?_ | refine qA ?_ _)); exact BK158.out) hb)
                    have n2_ := Aside0.mk (blk_below (g := gb172) (o := .cells #[.int .u64 t168, .int .u64 t169, .int .i64 t170] 24 (0, 0)) (by (with_reducible repeat (first | refine qN ?_ _ | refine qD ?_ | refine qA ?_ _)); exact BK172.out) hb)
                    have n3_ := Aside0.mk (blk_below (g := gb177) (o := .cells #[.int .u64 t173, .int .u64 t174, .int .i64 t175] 24 (0, 0)) (by (with_reducible repeat (first | refine qN ?_ _ | refine qD ?_ | refine qA ?_ _)); exact BK177.out) hb)
                    have n4_ := Aside0.mk (below_step (by repeat (first | (with_reducible first | exact HB.out | apply pA | apply pN | apply pD | refine pS ?_ GE157.out | refine pS ?_ GE158.out | refine pS ?_ GE172.out | refine pS ?_ GE177.out) | exact HB.out)) hb)
                    clear BK157
                    clear BK158
                    clear BK172
                    clear BK177
                    clear HB
                    have BK157 := n0_
                    have BK158 := n1_
                    have BK172 := n2_
                    have BK177 := n3_
                    have HB := n4_
                    clear n0_ n1_ n2_ n3_ n4_
                    (try clear hb)
                    (try clear hb2)
                    (try clear hk)
                    (try clear hi)
                    refine hK.out _ _ ⟨(blk_cell BK158.out 0).trans rfl, (blk_cell BK158.out 1).trans rfl, (blk_cell BK158.out 2).trans rfl, (blk_cell BK172.out 0).trans rfl, (blk_cell BK172.out 1).trans rfl, (blk_cell BK172.out 2).trans rfl, (blk_cell BK177.out 0).trans rfl, (blk_cell BK177.out 1).trans rfl, (blk_cell BK177.out 2).trans rfl⟩ (fun hHeld => ?_)
                    clear hK K
                    refine norm_ (a' := ?_) ?_ ?_
                    rotate_left
                    · show Act.put _ (some 74) _ = _
                      simp only [Act.put, List.setIfInBounds_toArray, List.set_cons_zero, List.set_cons_succ, i64_w, i32_w]
                      rfl
                    refine one_ (i := 28) (N := some 77) #[true, true, true, true, true, true, true, true, true, true, true, true, true, true, true, true, true, true, true, true, true, true, true, true, true, true, true, true, true, false, false, false, false, false, false, false, false, false, false, false, false, false, false] rfl rfl (one_of HT_.out (by kernel_rfl)) (by decide) (fun K hK => ?_)
                    refine goes_ Try.func19 (by kernel_rfl) rfl #[.agg #[.int .u64 a0_0, .int .u64 a0_1, .int .i64 a0_2], .int .i64 a0_5] (by rfl) rfl rfl (by (try simp only [List.map_toArray, List.map_cons, List.map_nil]); first | done | rfl | (simp only [List.length_drop, List.length_take]; rfl)) ?_
                    with_reducible refine (portreeveref17_Note.calls a0_0 a0_1 a0_2 a0_5 t193 t194 t195 t196 t197 t198 t199 t200 t201 _ A37.out).mono ?_
                    rintro e w60 ⟨rfl, hb⟩
                    refine ⟨_, rfl, ?_⟩
                    have n0_ := Aside0.mk (blk_below (g := gb157) (o := .cells #[.int .u64 a0_0, .int .u64 a0_1, .int .i64 a0_2, .int .i64 a0_3, .int .i64 a0_4, .int .i64 a0_5, .int .i64 a0_6] 26 (0, 0)) (by (with_reducible repeat (first | refine qN ?_ _ | refine qD ?_ | refine qA ?_ _)); exact BK157.out) hb)
                    have n1_ := Aside0.mk (blk_below (g := gb158) (o := .cells #[.int .u64 a0_0, .int .u64 a0_1, .int .i64 a0_2] 24 (0, 0)) (by (with_reducible repeat (first | refine qN ?_ _ | refine qD ?_ | refine qA ?_ _)); exact BK158.out) hb)
                    have n2_ := Aside0.mk (blk_below (g := gb172) (o := .cells #[.int .u64 t168, .int .u64 t169, .int .i64 t170] 24 (0, 0)) (by (with_reducible repeat (first | refine qN ?_ _ | refine qD ?_ | refine qA ?_ _)); exact BK172.out) hb)
                    have n3_ := Aside0.mk (blk_below (g := gb177) (o := .cells #[.int .u64 t173, .int .u64 t174, .int .i64 t175] 24 (0, 0)) (by (with_reducible repeat (first | refine qN ?_ _ | refine qD ?_ | refine qA ?_ _)); exact BK177.out) hb)
                    have n4_ := Aside0.mk (below_step (by repeat (first | (with_reducible first | exact HB.out | apply pA | apply pN | apply pD | refine pS ?_ GE157.out | refine pS ?_ GE158.out | refine pS ?_ GE172.out | refine pS ?_ GE177.out) | exact HB.out)) hb)
                    clear BK157
                    clear BK158
                    clear BK172
                    clear BK177
                    clear HB
                    have BK157 := n0_
                    have BK158 := n1_
                    have BK172 := n2_
                    have BK177 := n3_
                    have HB := n4_
                    clear n0_ n1_ n2_ n3_ n4_
                    (try clear hb)
                    (try clear hb2)
                    (try clear hk)
                    (try clear hi)
                    refine hK.out _ _ ⟨(blk_cell BK158.out 0).trans rfl, (blk_cell BK158.out 1).trans rfl, (blk_cell BK158.out 2).trans rfl, (blk_cell BK172.out 0).trans rfl, (blk_cell BK172.out 1).trans rfl, (blk_cell BK172.out 2).trans rfl, (blk_cell BK177.out 0).trans rfl, (blk_cell BK177.out 1).trans rfl, (blk_cell BK177.out 2).trans rfl⟩ (fun hHeld => ?_)
                    clear hK K
                    refine norm_ (a' := ?_) ?_ ?_
                    rotate_left
                    · show Act.put _ (some 77) _ = _
                      simp only [Act.put, List.setIfInBounds_toArray, List.set_cons_zero, List.set_cons_succ, i64_w, i32_w]
                      rfl
                    refine pure_ (i := 29) (N := some 78) (v := ?_) (a' := ?_) #[true, true, true, true, true, true, true, true, true, true, true, true, true, true, true, true, true, true, true, true, true, true, true, true, true, true, true, true, true, true, false, false, false, false, false, false, false, false, false, false, false, false, false] rfl rfl (any_of HT_.out (by kernel_rfl)) (fun _ _ _ h => h) (Or.inl ⟨by rfl, ?_⟩) ?_ ?_
                    rotate_left
                    · intro w'
                      go_simp
                      with_reducible rfl
                    rotate_left
                    · simp only [Act.put, List.setIfInBounds_toArray, List.set_cons_zero, List.set_cons_succ, i64_w, i32_w]
                      rfl
                    refine pure_ (i := 30) (N := some 79) (v := ?_) (a' := ?_) #[true, true, true, true, true, true, true, true, true, true, true, true, true, true, true, true, true, true, true, true, true, true, true, true, true, true, true, true, true, true, true, false, false, false, false, false, false, false, false, false, false, false, false] rfl rfl (any_of HT_.out (by kernel_rfl)) (fun _ _ _ h => h) (Or.inl ⟨by rfl, ?_⟩) ?_ ?_
                    rotate_left
                    · intro w'
                      go_simp
                      with_reducible rfl
                    rotate_left
                    · simp only [Act.put, List.setIfInBounds_toArray, List.set_cons_zero, List.set_cons_succ, i64_w, i32_w]
                      rfl
                    refine pure_ (i := 31) (N := some 80) (v := ?_) (a' := ?_) #[true, true, true, true, true, true, true, true, true, true, true, true, true, true, true, true, true, true, true, true, true, true, true, true, true, true, true, true, true, true, true, true, false, false, false, false, false, false, false, false, false, false, false] rfl rfl (any_of HT_.out (by kernel_rfl)) (fun _ _ _ h => h) (Or.inl ⟨by rfl, ?_⟩) ?_ ?_
                    rotate_left
                    · intro w'
                      go_simp
                      with_reducible rfl
                    rotate_left
                    · simp only [Act.put, List.setIfInBounds_toArray, List.set_cons_zero, List.set_cons_succ, i64_w, i32_w]
                      rfl
                    refine pure_ (i := 33) (N := some 82) (v := ?_) (a' := ?_) #[true, true, true, true, true, true, true, true, true, true, true, true, true, true, true, true, true, true, true, true, true, true, true, true, true, true, true, true, true, true, true, true, false, true, false, false, false, false, false, false, false, false, false] rfl rfl (any_of HT_.out (by kernel_rfl)) (fun _ _ _ h => h) (Or.inl ⟨by rfl, ?_⟩) ?_ ?_
                    rotate_left
                    · intro w'
                      go_simp
                      with_reducible rfl
                    rotate_left
                    · simp only [Act.put, List.setIfInBounds_toArray, List.set_cons_zero, List.set_cons_succ, i64_w, i32_w]
                      rfl
                    refine pure_ (i := 34) (N := some 83) (v := ?_) (a' := ?_) #[true, true, true, true, true, true, true, true, true, true, true, true, true, true, true, true, true, true, true, true, true, true, true, true, true, true, true, true, true, true, true, true, false, true, true, false, false, false, false, false, false, false, false] rfl rfl (any_of HT_.out (by kernel_rfl)) (fun _ _ _ h => h) (Or.inl ⟨by rfl, ?_⟩) ?_ ?_
                    rotate_left
                    · intro w'
                      go_simp
                      with_reducible rfl
                    rotate_left
                    · simp only [Act.put, List.setIfInBounds_toArray, List.set_cons_zero, List.set_cons_succ, i64_w, i32_w]
                      rfl
                    refine pure_ (i := 37) (N := some 86) (v := ?_) (a' := ?_) #[true, true, true, true, true, true, true, true, true, true, true, true, true, true, true, true, true, true, true, true, true, true, true, true, true, true, true, true, true, true, true, true, false, true, true, false, false, true, false, false, false, false, false] rfl rfl (any_of HT_.out (by kernel_rfl)) (fun _ _ _ h => h) (Or.inl ⟨by rfl, ?_⟩) ?_ ?_
                    rotate_left
                    · intro w'
                      go_simp
                      with_reducible rfl
                    rotate_left
                    · simp only [Act.put, List.setIfInBounds_toArray, List.set_cons_zero, List.set_cons_succ, i64_w, i32_w]
                      rfl
                    refine pure_ (i := 38) (N := some 87) (v := ?_) (a' := ?_) #[true, true, true, true, true, true, true, true, true, true, true, true, true, true, true, true, true, true, true, true, true, true, true, true, true, true, true, true, true, true, true, true, false, true, true, false, false, true, true, false, false, false, false] rfl rfl (any_of HT_.out (by kernel_rfl)) (fun _ _ _ h => h) (Or.inl ⟨by rfl, ?_⟩) ?_ ?_
                    rotate_left
                    · intro w'
                      go_simp
                      with_reducible rfl
                    rotate_left
                    · simp only [Act.put, List.setIfInBounds_toArray, List.set_cons_zero, List.set_cons_succ, i64_w, i32_w]
                      rfl
                    refine take_ (i := 32) (N := some 81) (v := ?_) (a' := ?_) #[true, true, true, true, true, true, true, true, true, true, true, true, true, true, true, true, true, true, true, true, true, true, true, true, true, true, true, true, true, true, true, true, true, true, true, false, false, true, true, false, false, false, false] rfl rfl (take_ofW HT_.out HW_.out (by kernel_rfl)) (fun _ _ _ h => h) (Or.inl ⟨by rfl, ?_⟩) hHeld ?_ ?_
                    rotate_left
                    · rintro w' ⟨s0, s1, s2, s3, s4, s5, s6, s7, s8⟩
                      go_simp
                      with_reducible rfl
                    rotate_left
                    · simp only [Act.put, List.setIfInBounds_toArray, List.set_cons_zero, List.set_cons_succ, i64_w, i32_w]
                      rfl
                    refine take_ (i := 36) (N := some 85) (v := ?_) (a' := ?_) #[true, true, true, true, true, true, true, true, true, true, true, true, true, true, true, true, true, true, true, true, true, true, true, true, true, true, true, true, true, true, true, true, true, true, true, false, true, true, true, false, false, false, false] rfl rfl (take_ofW HT_.out HW_.out (by kernel_rfl)) (fun _ _ _ h => h) (Or.inl ⟨by rfl, ?_⟩) hHeld ?_ ?_
                    rotate_left
                    · rintro w' ⟨s0, s1, s2, s3, s4, s5, s6, s7, s8⟩
                      go_simp
                      with_reducible rfl
                    rotate_left
                    · simp only [Act.put, List.setIfInBounds_toArray, List.set_cons_zero, List.set_cons_succ, i64_w, i32_w]
                      rfl
                    refine one_ (i := 35) (N := some 84) #[true, true, true, true, true, true, true, true, true, true, true, true, true, true, true, true, true, true, true, true, true, true, true, true, true, true, true, true, true, true, true, true, true, true, true, true, true, true, true, false, false, false, false] rfl rfl (one_of HT_.out (by kernel_rfl)) (by decide) (fun K hK => ?_)
                    refine goes_ Try.func20 (by kernel_rfl) rfl #[.agg #[.int .u64 a0_0, .int .u64 a0_1, .int .i64 a0_2], .int .i64 a0_5, .int .i64 a0_6] (by rfl) rfl rfl (by (try simp only [List.map_toArray, List.map_cons, List.map_nil]); first | done | rfl | (simp only [List.length_drop, List.length_take]; rfl)) ?_
                    with_reducible refine (meter_Stop.calls a0_0 a0_1 a0_2 a0_5 a0_6 t202 t203 t204 t205 t206 t207 t208 t209 t210 _ A39.out).mono ?_
                    rintro e w61 ⟨rfl, hb⟩
                    refine ⟨_, rfl, ?_⟩
                    have n0_ := Aside0.mk (blk_below (g := gb157) (o := .cells #[.int .u64 a0_0, .int .u64 a0_1, .int .i64 a0_2, .int .i64 a0_3, .int .i64 a0_4, .int .i64 a0_5, .int .i64 a0_6] 26 (0, 0)) (by (with_reducible repeat (first | refine qN ?_ _ | refine qD ?_ | refine qA ?_ _)); exact BK157.out) hb)
                    have n1_ := Aside0.mk (blk_below (g := gb158) (o := .cells #[.int .u64 a0_0, .int .u64 a0_1, .int .i64 a0_2] 24 (0, 0)) (by (with_reducible repeat (first | refine qN ?_ _ | refine qD ?_ | refine qA ?_ _)); exact BK158.out) hb)
                    have n2_ := Aside0.mk (blk_below (g := gb172) (o := .cells #[.int .u64 t168, .int .u64 t169, .int .i64 t170] 24 (0, 0)) (by (with_reducible repeat (first | refine qN ?_ _ | refine qD ?_ | refine qA ?_ _)); exact BK172.out) hb)
                    have n3_ := Aside0.mk (blk_below (g := gb177) (o := .cells #[.int .u64 t173, .int .u64 t174, .int .i64 t175] 24 (0, 0)) (by (with_reducible repeat (first | refine qN ?_ _ | refine qD ?_ | refine qA ?_ _)); exact BK177.out) hb)
                    have n4_ := Aside0.mk (below_step (by repeat (first | (with_reducible first | exact HB.out | apply pA | apply pN | apply pD | refine pS ?_ GE157.out | refine pS ?_ GE158.out | refine pS ?_ GE172.out | refine pS ?_ GE177.out) | exact HB.out)) hb)
                    clear BK157
                    clear BK158
                    clear BK172
                    clear BK177
                    clear HB
                    have BK157 := n0_
                    have BK158 := n1_
                    have BK172 := n2_
                    have BK177 := n3_
                    have HB := n4_
                    clear n0_ n1_ n2_ n3_ n4_
                    (try clear hb)
                    (try clear hb2)
                    (try clear hk)
                    (try clear hi)
                    refine hK.out _ _ ⟨(blk_cell BK158.out 0).trans rfl, (blk_cell BK158.out 1).trans rfl, (blk_cell BK158.out 2).trans rfl, (blk_cell BK172.out 0).trans rfl, (blk_cell BK172.out 1).trans rfl, (blk_cell BK172.out 2).trans rfl, (blk_cell BK177.out 0).trans rfl, (blk_cell BK177.out 1).trans rfl, (blk_cell BK177.out 2).trans rfl⟩ (fun hHeld => ?_)
                    clear hK K
                    refine norm_ (a' := ?_) ?_ ?_
                    rotate_left
                    · show Act.put _ (some 84) _ = _
                      simp only [Act.put, List.setIfInBounds_toArray, List.set_cons_zero, List.set_cons_succ, i64_w, i32_w]
                      rfl
                    refine one_ (i := 39) (N := some 88) #[true, true, true, true, true, true, true, true, true, true, true, true, true, true, true, true, true, true, true, true, true, true, true, true, true, true, true, true, true, true, true, true, true, true, true, true, true, true, true, true, false, false, false] rfl rfl (one_of HT_.out (by kernel_rfl)) (by decide) (fun K hK => ?_)
                    refine goes_ Try.func21 (by kernel_rfl) rfl #[.agg #[.int .u64 a0_0, .int .u64 a0_1, .int .i64 a0_2], .int .i64 a0_5, .int .i64 a0_6] (by rfl) rfl rfl (by (try simp only [List.map_toArray, List.map_cons, List.map_nil]); first | done | rfl | (simp only [List.length_drop, List.length_take]; rfl)) ?_
                    with_reducible refine (portreeveref17_Stop.calls a0_0 a0_1 a0_2 a0_5 a0_6 t211 t212 t213 t214 t215 t216 t217 t218 t219 _ A40.out).mono ?_
                    rintro e w62 ⟨rfl, hb⟩
                    refine ⟨_, rfl, ?_⟩
                    have n0_ := Aside0.mk (blk_below (g := gb157) (o := .cells #[.int .u64 a0_0, .int .u64 a0_1, .int .i64 a0_2, .int .i64 a0_3, .int .i64 a0_4, .int .i64 a0_5, .int .i64 a0_6] 26 (0, 0)) (by (with_reducible repeat (first | refine qN ?_ _ | refine qD ?_ | refine qA ?_ _)); exact BK157.out) hb)
                    have n1_ := Aside0.mk (blk_below (g := gb158) (o := .cells #[.int .u64 a0_0, .int .u64 a0_1, .int .i64 a0_2] 24 (0, 0)) (by (with_reducible repeat (first | refine qN ?_ _ | refine qD ?_ | refine qA ?_ _)); exact BK158.out) hb)
                    have n2_ := Aside0.mk (blk_below (g := gb172) (o := .cells #[.int .u64 t168, .int .u64 t169, .int .i64 t170] 24 (0, 0)) (by (with_reducible repeat (first | refine qN ?_ _ | refine qD ?_ | refine qA ?_ _)); exact BK172.out) hb)
                    have n3_ := Aside0.mk (blk_below (g := gb177) (o := .cells #[.int .u64 t173, .int .u64 t174, .int .i64 t175] 24 (0, 0)) (by (with_reducible repeat (first | refine qN ?_ _ | refine qD ?_ | refine qA ?_ _)); exact BK177.out) hb)
                    have n4_ := Aside0.mk (below_step (by repeat (first | (with_reducible first | exact HB.out | apply pA | apply pN | apply pD | refine pS ?_ GE157.out | refine pS ?_ GE158.out | refine pS ?_ GE172.out | refine pS ?_ GE177.out) | exact HB.out)) hb)
                    clear BK157
                    clear BK158
                    clear BK172
                    clear BK177
                    clear HB
                    have BK157 := n0_
                    have BK158 := n1_
                    have BK172 := n2_
                    have BK177 := n3_
                    have HB := n4_
                    clear n0_ n1_ n2_ n3_ n4_
                    (try clear hb)
                    (try clear hb2)
                    (try clear hk)
                    (try clear hi)
                    refine hK.out _ _ ⟨(blk_cell BK158.out 0).trans rfl, (blk_cell BK158.out 1).trans rfl, (blk_cell BK158.out 2).trans rfl, (blk_cell BK172.out 0).trans rfl, (blk_cell BK172.out 1).trans rfl, (blk_cell BK172.out 2).trans rfl, (blk_cell BK177.out 0).trans rfl, (blk_cell BK177.out 1).trans rfl, (blk_cell BK177.out 2).trans rfl⟩ (fun hHeld => ?_)
                    clear hK K
                    refine norm_ (a' := ?_) ?_ ?_
                    rotate_left
                    · show Act.put _ (some 88) _ = _
                      simp only [Act.put, List.setIfInBounds_toArray, List.set_cons_zero, List.set_cons_succ, i64_w, i32_w]
                      rfl
                    refine pure_ (i := 40) (N := some 89) (v := ?_) (a' := ?_) #[true, true, true, true, true, true, true, true, true, true, true, true, true, true, true, true, true, true, true, true, true, true, true, true, true, true, true, true, true, true, true, true, true, true, true, true, true, true, true, true, true, false, false] rfl rfl (any_of HT_.out (by kernel_rfl)) (fun _ _ _ h => h) (Or.inl ⟨by rfl, ?_⟩) ?_ ?_
                    rotate_left
                    · intro w'
                      go_simp
                      with_reducible rfl
                    rotate_left
                    · simp only [Act.put, List.setIfInBounds_toArray, List.set_cons_zero, List.set_cons_succ, i64_w, i32_w]
                      rfl
                    refine pure_ (i := 41) (N := some 90) (v := ?_) (a' := ?_) #[true, true, true, true, true, true, true, true, true, true, true, true, true, true, true, true, true, true, true, true, true, true, true, true, true, true, true, true, true, true, true, true, true, true, true, true, true, true, true, true, true, true, false] rfl rfl (any_of HT_.out (by kernel_rfl)) (fun _ _ _ h => h) (Or.inl ⟨by rfl, ?_⟩) ?_ ?_
                    rotate_left
                    · intro w'
                      go_simp
                      with_reducible rfl
                    rotate_left
                    · simp only [Act.put, List.setIfInBounds_toArray, List.set_cons_zero, List.set_cons_succ, i64_w, i32_w]
                      rfl
                    refine pure_ (i := 42) (N := some 2) (v := ?_) (a' := ?_) #[true, true, true, true, true, true, true, true, true, true, true, true, true, true, true, true, true, true, true, true, true, true, true, true, true, true, true, true, true, true, true, true, true, true, true, true, true, true, true, true, true, true, true] rfl rfl (any_of HT_.out (by kernel_rfl)) (fun _ _ _ h => h) (Or.inl ⟨by rfl, ?_⟩) ?_ ?_
                    rotate_left
                    · intro w'
                      go_simp
                      with_reducible rfl
                    rotate_left
                    · simp only [Act.put, List.setIfInBounds_toArray, List.set_cons_zero, List.set_cons_succ, i64_w, i32_w]
                      rfl
                    refine done_ (done_of HT_.out (by kernel_rfl)) ?_
                    try go_wp2
                    go_ret
                    exact ⟨by first | rfl | (simp [errW_none, errW_some] <;> rfl) | (simp [*, errW_none, errW_some] <;> rfl), by repeat (first | (with_reducible first | exact HB.out | apply pA | apply pN | apply pD | refine pS ?_ GE157.out | refine pS ?_ GE158.out | refine pS ?_ GE172.out | refine pS ?_ GE177.out) | exact HB.out)⟩
                  · rw [if_neg c38] at H
                    have c38b0 : (t184 == t193 && (t185 == t194 && (t186 == t195 && (t187 == t196 && (t188.toList == t197.toList && (t189 == t198 && (t190 == t199 && (t191 == t200 && (t192 == t201))))))))) = false := by simpa using c38
                    (try (have c38b1 : decide (t184 = t193 && (t185 == t194 && (t186 == t195 && (t187 == t196 && (t188.toList == t197.toList && (t189 == t198 && (t190 == t199 && (t191 == t200 && (t192 == t201))))))))) = false := by simpa using c38))
                    (try (have c38b2 : (t184 == t193 && (t185 == t194 && (t186 == t195 && (t187 == t196 && (t188.toList == t197.toList && (t189 == t198 && (t190 == t199 && (t191 == t200 && (t192 == t201))))))))) = false := by simpa using c38))
                    (try (have c38b3 : ¬ (t184 = t193 && (t185 == t194 && (t186 == t195 && (t187 == t196 && (t188.toList == t197.toList && (t189 == t198 && (t190 == t199 && (t191 == t200 && (t192 == t201))))))))) := by simpa using c38))
                    clear c38
                    exact absurd ((Option.some.inj H).trans hlaw_.out) (by decide)
                · rw [if_neg c35] at H
                  have c35b0 : (t171 == t176) = false := by simpa using c35
                  (try (have c35b1 : decide (t171 = t176) = false := by simpa using c35))
                  (try (have c35b2 : (t171 == t176) = false := by simpa using c35))
                  (try (have c35b3 : ¬ (t171 = t176) := by simpa using c35))
                  clear c35
                  exact absurd ((Option.some.inj H).trans hlaw_.out) (by decide)
              · rw [if_neg c34] at H
                have c34b0 : (t168 == t173 && (t169 == t174 && (t170 == t175))) = false := by simpa using c34
                (try (have c34b1 : decide (t168 = t173 && (t169 == t174 && (t170 == t175))) = false := by simpa using c34))
                (try (have c34b2 : (t168 == t173 && (t169 == t174 && (t170 == t175))) = false := by simpa using c34))
                (try (have c34b3 : ¬ (t168 = t173 && (t169 == t174 && (t170 == t175))) := by simpa using c34))
                clear c34
                exact absurd ((Option.some.inj H).trans hlaw_.out) (by decide)
            · rw [if_neg c33] at H
              have c33b0 : (t178 == t181 && (t179 == t182 && (t180 == t183))) = false := by simpa using c33
              (try (have c33b1 : decide (t178 = t181 && (t179 == t182 && (t180 == t183))) = false := by simpa using c33))
              (try (have c33b2 : (t178 == t181 && (t179 == t182 && (t180 == t183))) = false := by simpa using c33))
              (try (have c33b3 : ¬ (t178 = t181 && (t179 == t182 && (t180 == t183))) := by simpa using c33))
              clear c33
              exact absurd ((Option.some.inj H).trans hlaw_.out) (by decide)
          · replace c30 := Bool.eq_false_iff.mpr c30
            subst c30
            have H1 : (some false) = some r := by rw [if_neg (show ¬ (false = true) by decide)] at H; exact H
            clear H
            have H := H1
            clear H1
            exact absurd ((Option.some.inj H).trans hlaw_.out) (by decide)
        · replace c27 := Bool.eq_false_iff.mpr c27
          subst c27
          have H1 : (some t159) = some r := by rw [if_neg (show ¬ (false = true) by decide)] at H; exact H
          clear H
          have H := H1
          clear H1
          clear hlaw_
          obtain rfl := Option.some.inj H
          go_wp2
          go_ret
          exact ⟨by first | rfl | (simp [errW_none, errW_some] <;> rfl) | (simp [*, errW_none, errW_some] <;> rfl), by repeat (first | (with_reducible first | exact HB.out | apply pA | apply pN | apply pD | refine pS ?_ GE157.out | refine pS ?_ GE158.out) | exact HB.out)⟩

end Go.Proofs.Ytlimlbhhbjaljaa.Q

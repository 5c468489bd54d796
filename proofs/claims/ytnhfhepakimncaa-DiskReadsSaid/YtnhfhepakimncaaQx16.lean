-- written by this session's own program (wip/tools/myprint.py), over the kit's print
import Derived.Test.YtnhfhepakimncaaQx0
import Derived.Test.YtnhfhepakimncaaQx3
import Derived.Test.YtnhfhepakimncaaQx4
import Derived.Test.YtnhfhepakimncaaQx6
import Derived.Test.YtnhfhepakimncaaQx9
import Derived.Test.YtnhfhepakimncaaQx10
import Derived.Test.YtnhfhepakimncaaQx11
namespace Go.Proofs.Ytnhfhepakimncaa.Q
open Go.RowKit Go.Proofs.YtnhfhepakimncaaW.PrintWords Go.Proofs.YtnhfhepakimncaaW.PrintLast Go.Proofs.YtnhfhepakimncaaW.PrintMore
open Go.Proofs.YtnhfhepakimncaaV
attribute [local go_sem] max2_int min2_int max_two min_two max_three min_three max_four min_four   -- for this text's walks alone
set_option linter.unusedVariables false
set_option linter.unusedSimpArgs false

/-! ### portreevelaw03_DiskReads: function 5 -/
mutual
def portreevelaw03_DiskReads.j0 : Nat → Int → List Int → Int → Bool → Bool → List (List Int) → List (S47) → Option (Bool)
  | 0, _, _, _, _, _, _, _ => none
  | k + 1, x4, x5, x6, x7, x55, x365000, x365001 => if x55 = true then (some x7) else ((disk_Write.f x365000 x365001 x4 x5).bind fun bt368 => ((disk_Read.f k bt368.1 bt368.2.1 x4).bind fun bt376 => ((disk_Read.f k bt368.1 bt368.2.1 x6).bind fun bt380 => ((disk_Read.f k x365000 x365001 x6).bind fun bt384 => ((disk_Flush.f k bt368.1 bt368.2.1).bind fun bt388 => ((disk_Read.f k bt388.1 bt388.2 x6).bind fun bt394 => (if bt368.2.2 = 0 then (if bt376.2 = 0 then (if bt380.2 = 0 then (if bt384.2 = 0 then (portreevelaw03_DiskReads.j1 k x4 x5 x6 x7 bt376.1 bt380.1 bt384.1 bt394.1 (bt394.2 != 0) bt368.1 bt368.2.1) else (portreevelaw03_DiskReads.j1 k x4 x5 x6 x7 bt376.1 bt380.1 bt384.1 bt394.1 true bt368.1 bt368.2.1)) else (portreevelaw03_DiskReads.j1 k x4 x5 x6 x7 bt376.1 bt380.1 bt384.1 bt394.1 true bt368.1 bt368.2.1)) else (portreevelaw03_DiskReads.j1 k x4 x5 x6 x7 bt376.1 bt380.1 bt384.1 bt394.1 true bt368.1 bt368.2.1)) else (portreevelaw03_DiskReads.j1 k x4 x5 x6 x7 bt376.1 bt380.1 bt384.1 bt394.1 true bt368.1 bt368.2.1))))))))
def portreevelaw03_DiskReads.j1 : Nat → Int → List Int → Int → Bool → List Int → List Int → List Int → List Int → Bool → List (List Int) → List (S47) → Option (Bool)
  | 0, _, _, _, _, _, _, _, _, _, _, _ => none
  | k + 1, x4, x5, x6, x7, x10, x12, x14, x16, x106, x376000, x376001 => if x106 = true then (some false) else (if x7 = true then ((portreeveref01_Row.f k x10 x5).bind fun t398 => (if t398 = true then (if x6 = x4 then ((portreeveref01_Row.f k x12 x16).bind fun t399 => (if t399 = true then ((portreeveref03_Right.f k x376000 x376001).bind fun t400 => (some t400)) else (some false))) else ((portreeveref01_Row.f k x12 x14).bind fun t401 => (if t401 = true then ((portreeveref01_Row.f k x12 x16).bind fun t402 => (if t402 = true then ((portreeveref03_Right.f k x376000 x376001).bind fun t403 => (some t403)) else (some false))) else (some false)))) else (some false))) else (some false))
end
def portreevelaw03_DiskReads.f (k : Nat) (l0_0 : List (List Int)) (l0_1 : List (S47)) (a0_2 : Int) (l0_3 : List Int) (a0_4 : Int) : Option (Bool) := (portreevelaw03_shown.f k).bind fun t365 => ((portreeveref03_Small.f k l0_0 l0_1).bind fun t366 => (if t366 = true then ((portreeveref03_Right.f k l0_0 l0_1).bind fun t367 => (if t367 = true then (if a0_2 < 0 then (portreevelaw03_DiskReads.j0 k a0_2 l0_3 a0_4 t365 true l0_0 l0_1) else (if a0_2 ≥ 64 then (portreevelaw03_DiskReads.j0 k a0_2 l0_3 a0_4 t365 true l0_0 l0_1) else (if (l0_3.length : Int) = 128 then (if a0_4 < 0 then (portreevelaw03_DiskReads.j0 k a0_2 l0_3 a0_4 t365 true l0_0 l0_1) else (portreevelaw03_DiskReads.j0 k a0_2 l0_3 a0_4 t365 (decide (a0_4 ≥ 64)) l0_0 l0_1)) else (portreevelaw03_DiskReads.j0 k a0_2 l0_3 a0_4 t365 true l0_0 l0_1)))) else (portreevelaw03_DiskReads.j0 k a0_2 l0_3 a0_4 t365 true l0_0 l0_1))) else (portreevelaw03_DiskReads.j0 k a0_2 l0_3 a0_4 t365 true l0_0 l0_1)))
theorem portreevelaw03_DiskReads.mono_l : ∀ k, (∀ y0 y1 y2 y3 y4 y5 y6, LeO (portreevelaw03_DiskReads.j0 k y0 y1 y2 y3 y4 y5 y6) (portreevelaw03_DiskReads.j0 (k + 1) y0 y1 y2 y3 y4 y5 y6)) ∧ (∀ y0 y1 y2 y3 y4 y5 y6 y7 y8 y9 y10, LeO (portreevelaw03_DiskReads.j1 k y0 y1 y2 y3 y4 y5 y6 y7 y8 y9 y10) (portreevelaw03_DiskReads.j1 (k + 1) y0 y1 y2 y3 y4 y5 y6 y7 y8 y9 y10))
  | 0 => ⟨fun _ _ _ _ _ _ _ r h => by simp [portreevelaw03_DiskReads.j0] at h, fun _ _ _ _ _ _ _ _ _ _ _ r h => by simp [portreevelaw03_DiskReads.j1] at h⟩
  | k + 1 => by
    obtain ⟨ih0, ih1⟩ := portreevelaw03_DiskReads.mono_l k
    refine ⟨?_, ?_⟩
    · intro y0 y1 y2 y3 y4 y5 y6
      unfold portreevelaw03_DiskReads.j0
      repeat' first
      | (with_reducible exact ih0 _ _ _ _ _ _ _)
      | (with_reducible exact ih1 _ _ _ _ _ _ _ _ _ _ _)
      | (with_reducible exact disk_Flush.mono _ _ _)
      | (with_reducible exact disk_Read.mono _ _ _ _)
      | (with_reducible exact portreevelaw03_shown.mono _)
      | (with_reducible exact portreeveref01_Row.mono _ _ _)
      | (with_reducible exact portreeveref03_Right.mono _ _ _)
      | (with_reducible exact portreeveref03_Small.mono _ _ _)
      | (with_reducible exact LeO.refl _)
      | (with_reducible exact LeO.none _)
      | (with_reducible refine LeO.ite ?_ ?_)
      | (with_reducible refine LeO.bind ?_ (fun _ => ?_))
      | exact ih0 _ _ _ _ _ _ _
      | exact ih1 _ _ _ _ _ _ _ _ _ _ _
      | exact disk_Flush.mono _ _ _
      | exact disk_Read.mono _ _ _ _
      | exact portreevelaw03_shown.mono _
      | exact portreeveref01_Row.mono _ _ _
      | exact portreeveref03_Right.mono _ _ _
      | exact portreeveref03_Small.mono _ _ _
      | exact LeO.none _
      | refine LeO.ite ?_ ?_
      | refine LeO.bind ?_ (fun _ => ?_)
    · intro y0 y1 y2 y3 y4 y5 y6 y7 y8 y9 y10
      unfold portreevelaw03_DiskReads.j1
      repeat' first
      | (with_reducible exact ih0 _ _ _ _ _ _ _)
      | (with_reducible exact ih1 _ _ _ _ _ _ _ _ _ _ _)
      | (with_reducible exact disk_Flush.mono _ _ _)
      | (with_reducible exact disk_Read.mono _ _ _ _)
      | (with_reducible exact portreevelaw03_shown.mono _)
      | (with_reducible exact portreeveref01_Row.mono _ _ _)
      | (with_reducible exact portreeveref03_Right.mono _ _ _)
      | (with_reducible exact portreeveref03_Small.mono _ _ _)
      | (with_reducible exact LeO.refl _)
      | (with_reducible exact LeO.none _)
      | (with_reducible refine LeO.ite ?_ ?_)
      | (with_reducible refine LeO.bind ?_ (fun _ => ?_))
      | exact ih0 _ _ _ _ _ _ _
      | exact ih1 _ _ _ _ _ _ _ _ _ _ _
      | exact disk_Flush.mono _ _ _
      | exact disk_Read.mono _ _ _ _
      | exact portreevelaw03_shown.mono _
      | exact portreeveref01_Row.mono _ _ _
      | exact portreeveref03_Right.mono _ _ _
      | exact portreeveref03_Small.mono _ _ _
      | exact LeO.none _
      | refine LeO.ite ?_ ?_
      | refine LeO.bind ?_ (fun _ => ?_)
theorem portreevelaw03_DiskReads.mono : ∀ a0 a1 a2 a3 a4 k, LeO (portreevelaw03_DiskReads.f k a0 a1 a2 a3 a4) (portreevelaw03_DiskReads.f (k + 1) a0 a1 a2 a3 a4) := by
  intro a0 a1 a2 a3 a4 k
  obtain ⟨ih0, ih1⟩ := portreevelaw03_DiskReads.mono_l k
  unfold portreevelaw03_DiskReads.f
  repeat' first
      | (with_reducible exact ih0 _ _ _ _ _ _ _)
      | (with_reducible exact ih1 _ _ _ _ _ _ _ _ _ _ _)
      | (with_reducible exact disk_Flush.mono _ _ _)
      | (with_reducible exact disk_Read.mono _ _ _ _)
      | (with_reducible exact portreevelaw03_shown.mono _)
      | (with_reducible exact portreeveref01_Row.mono _ _ _)
      | (with_reducible exact portreeveref03_Right.mono _ _ _)
      | (with_reducible exact portreeveref03_Small.mono _ _ _)
      | (with_reducible exact LeO.refl _)
      | (with_reducible exact LeO.none _)
      | (with_reducible refine LeO.ite ?_ ?_)
      | (with_reducible refine LeO.bind ?_ (fun _ => ?_))
      | exact ih0 _ _ _ _ _ _ _
      | exact ih1 _ _ _ _ _ _ _ _ _ _ _
      | exact disk_Flush.mono _ _ _
      | exact disk_Read.mono _ _ _ _
      | exact portreevelaw03_shown.mono _
      | exact portreeveref01_Row.mono _ _ _
      | exact portreeveref03_Right.mono _ _ _
      | exact portreeveref03_Small.mono _ _ _
      | exact LeO.none _
      | refine LeO.ite ?_ ?_
      | refine LeO.bind ?_ (fun _ => ?_)
set_option maxHeartbeats 8000000 in
set_option maxRecDepth 100000 in
theorem portreevelaw03_DiskReads.calls (k : Nat) (A0_0 : Option Addr) (c0_0 : Nat) (l0_0 : List (List Int)) (A0_1 : Option Addr) (c0_1 : Nat) (l0_1 : List (S47)) (a0_2 : Int) (A0_3 : Option Addr) (c0_3 : Nat) (l0_3 : List Int) (a0_4 : Int) (r : Bool) (w : World) (hlaw_ : Aside0 (r = true)) (hr0_0 : Kd.C (Kd.slice 5 (Kd.int .u8)) w A0_0 l0_0.length l0_0) (hc0_0 : l0_0.length ≤ c0_0) (hr0_1 : Kd.C k47 w A0_1 l0_1.length l0_1) (hc0_1 : l0_1.length ≤ c0_1) (hr0_3 : Kd.C (Kd.int .u8) w A0_3 l0_3.length l0_3) (hc0_3 : l0_3.length ≤ c0_3) (h : portreevelaw03_DiskReads.f k l0_0 l0_1 a0_2 l0_3 a0_4 = some r) :
    Calls Try.prog 5 #[.agg #[.slice A0_0 l0_0.length c0_0, .slice A0_1 l0_1.length c0_1, .int .i64 a0_2, .slice A0_3 l0_3.length c0_3, .int .i64 a0_4]] w fun e w' => e = .returned (.bool r) ∧ Below w.heap.size w w' := by
  have hu50 := Try.underlying50
  have hu25 := Try.underlying25
  have HR0_0 := Aside0.mk hr0_0
  have HC0_0 := Aside0.mk hc0_0
  clear hr0_0 hc0_0
  have HR0_1 := Aside0.mk hr0_1
  have HC0_1 := Aside0.mk hc0_1
  clear hr0_1 hc0_1
  have HR0_3 := Aside0.mk hr0_3
  have HC0_3 := Aside0.mk hc0_3
  clear hr0_3 hc0_3
  have HB := Aside0.mk (Below.refl w.heap.size w)
  have H : ((portreevelaw03_shown.f k).bind fun t365 => ((portreeveref03_Small.f k l0_0 l0_1).bind fun t366 => (if t366 = true then ((portreeveref03_Right.f k l0_0 l0_1).bind fun t367 => (if t367 = true then (if a0_2 < 0 then (portreevelaw03_DiskReads.j0 k a0_2 l0_3 a0_4 t365 true l0_0 l0_1) else (if a0_2 ≥ 64 then (portreevelaw03_DiskReads.j0 k a0_2 l0_3 a0_4 t365 true l0_0 l0_1) else (if (l0_3.length : Int) = 128 then (if a0_4 < 0 then (portreevelaw03_DiskReads.j0 k a0_2 l0_3 a0_4 t365 true l0_0 l0_1) else (portreevelaw03_DiskReads.j0 k a0_2 l0_3 a0_4 t365 (decide (a0_4 ≥ 64)) l0_0 l0_1)) else (portreevelaw03_DiskReads.j0 k a0_2 l0_3 a0_4 t365 true l0_0 l0_1)))) else (portreevelaw03_DiskReads.j0 k a0_2 l0_3 a0_4 t365 true l0_0 l0_1))) else (portreevelaw03_DiskReads.j0 k a0_2 l0_3 a0_4 t365 true l0_0 l0_1)))) = some r := h
  clear h
  replace H := Option.bind_eq_some_iff.mp H
  obtain ⟨t365, A20, H⟩ := H
  replace H : ((portreeveref03_Small.f k l0_0 l0_1).bind fun t366 => (if t366 = true then ((portreeveref03_Right.f k l0_0 l0_1).bind fun t367 => (if t367 = true then (if a0_2 < 0 then (portreevelaw03_DiskReads.j0 k a0_2 l0_3 a0_4 t365 true l0_0 l0_1) else (if a0_2 ≥ 64 then (portreevelaw03_DiskReads.j0 k a0_2 l0_3 a0_4 t365 true l0_0 l0_1) else (if (l0_3.length : Int) = 128 then (if a0_4 < 0 then (portreevelaw03_DiskReads.j0 k a0_2 l0_3 a0_4 t365 true l0_0 l0_1) else (portreevelaw03_DiskReads.j0 k a0_2 l0_3 a0_4 t365 (decide (a0_4 ≥ 64)) l0_0 l0_1)) else (portreevelaw03_DiskReads.j0 k a0_2 l0_3 a0_4 t365 true l0_0 l0_1)))) else (portreevelaw03_DiskReads.j0 k a0_2 l0_3 a0_4 t365 true l0_0 l0_1))) else (portreevelaw03_DiskReads.j0 k a0_2 l0_3 a0_4 t365 true l0_0 l0_1))) = some r := H
  have A2 := Aside0.mk A20
  clear A20
  have HC3 := Aside0.mk H
  clear H
  go_enter Try.func5, Try.ntmps5
  go_upto_region 6 with (first | ((with_reducible refine gate_dst (N := 1) rfl ?_); (try (refine gate_guard (by rfl) ?_; dsimp only)); refine box_event ?hg (N := 1) ?hd (cs := #[.slice A0_0 l0_0.length c0_0, .slice A0_1 l0_1.length c0_1, .int .i64 a0_2, .slice A0_3 l0_3.length c0_3, .int .i64 a0_4]) (t := 50) ?hr ?_; (case hd => rfl); (case hg => rfl); (case hr => first | (go_simp; done) | (go_simp; rfl)); intro gb363 hg w4 hbox hb; have n0_ := Aside0.mk (below_step (by repeat (first | (with_reducible first | exact HB.out | apply pA | apply pN | apply pD) | exact HB.out)) hb); have n1_ := Aside0.mk (hbox); have n2_ := Aside0.mk ((by rw [hg]; exact (below_size (by repeat (first | (with_reducible first | exact HB.out | apply pA | apply pN | apply pD) | exact HB.out))) : w.heap.size ≤ gb363)); have n3_ := Aside0.mk ((by rw [hg]; exact (below_size (by repeat (first | (with_reducible first | exact HB.out | apply pA | apply pN | apply pD) | exact HB.out))) : w.heap.size ≤ gb363)); clear HB; have HB := n0_; have BK363 := n1_; have GW363 := n2_; have GE363 := n3_; clear n0_ n1_ n2_ n3_; clear hb hbox hg; have hcz5_0 : w4.cell? ⟨gb363, 0, none⟩ = some (.slice A0_0 l0_0.length c0_0) := (blk_cell BK363.out 0).trans rfl; have hcz5_1 : w4.cell? ⟨gb363, 1, none⟩ = some (.slice A0_1 l0_1.length c0_1) := (blk_cell BK363.out 1).trans rfl; have hcz5_2 : w4.cell? ⟨gb363, 2, none⟩ = some (.int .i64 a0_2) := (blk_cell BK363.out 2).trans rfl; have hcz5_3 : w4.cell? ⟨gb363, 3, none⟩ = some (.slice A0_3 l0_3.length c0_3) := (blk_cell BK363.out 3).trans rfl; have hcz5_4 : w4.cell? ⟨gb363, 4, none⟩ = some (.int .i64 a0_4) := (blk_cell BK363.out 4).trans rfl; have hfz5_0 := blk_frozen BK363.out 0; have hfz5_1 := blk_frozen BK363.out 1; have hfz5_2 := blk_frozen BK363.out 2; have hfz5_3 := blk_frozen BK363.out 3; have hfz5_4 := blk_frozen BK363.out 4) | ((with_reducible refine gate_dst (N := 3) rfl ?_); (try (refine gate_guard (by rfl) ?_; dsimp only)); refine box_event ?hg (N := 3) ?hd (cs := #[.slice none 0 0, .slice none 0 0]) (t := 25) ?hr ?_; (case hd => rfl); (case hg => rfl); (case hr => first | (go_simp; done) | (go_simp; rfl)); intro gb364 hg w6 hbox hb; have n0_ := Aside0.mk (blk_below (g := gb363) (o := .cells #[.slice A0_0 l0_0.length c0_0, .slice A0_1 l0_1.length c0_1, .int .i64 a0_2, .slice A0_3 l0_3.length c0_3, .int .i64 a0_4] 50 (0, 0)) (by (with_reducible repeat (first | refine qN ?_ _ | refine qD ?_ | refine qA ?_ _)); exact BK363.out) hb); have n1_ := Aside0.mk (below_step (by repeat (first | (with_reducible first | exact HB.out | apply pA | apply pN | apply pD | refine pS ?_ GE363.out) | exact HB.out)) hb); have n2_ := Aside0.mk (hbox); have n3_ := Aside0.mk ((by rw [hg]; exact (below_size (by repeat (first | (with_reducible first | exact HB.out | apply pA | apply pN | apply pD | refine pS ?_ GE363.out) | exact HB.out))) : w.heap.size ≤ gb364)); have n4_ := Aside0.mk ((by rw [hg]; exact (below_size (by repeat (first | (with_reducible first | exact HB.out | apply pA | apply pN | apply pD | refine pS ?_ GE363.out) | exact HB.out))) : w.heap.size ≤ gb364)); have n5_ := Aside0.mk ((by rw [hg]; exact Nat.ne_of_lt (blk_lt (g := gb363) (o := .cells #[.slice A0_0 l0_0.length c0_0, .slice A0_1 l0_1.length c0_1, .int .i64 a0_2, .slice A0_3 l0_3.length c0_3, .int .i64 a0_4] 50 (0, 0)) (by (with_reducible repeat (first | refine qN ?_ _ | refine qD ?_ | refine qA ?_ _)); exact BK363.out)) : gb363 ≠ gb364)); have n6_ := Aside0.mk ((by rw [hg]; exact Nat.ne_of_gt (blk_lt (g := gb363) (o := .cells #[.slice A0_0 l0_0.length c0_0, .slice A0_1 l0_1.length c0_1, .int .i64 a0_2, .slice A0_3 l0_3.length c0_3, .int .i64 a0_4] 50 (0, 0)) (by (with_reducible repeat (first | refine qN ?_ _ | refine qD ?_ | refine qA ?_ _)); exact BK363.out)) : gb364 ≠ gb363)); clear BK363; clear HB; have BK363 := n0_; have HB := n1_; have BK364 := n2_; have GW364 := n3_; have GE364 := n4_; have NB363_364 := n5_; have NB364_363 := n6_; clear n0_ n1_ n2_ n3_ n4_ n5_ n6_; clear hb hbox hg; have hnb7 := NB364_363.out; have hnc7 := NB363_364.out; have hcz8_0 : w6.cell? ⟨gb364, 0, none⟩ = some (.slice none 0 0) := (blk_cell BK364.out 0).trans rfl; have hcz8_1 : w6.cell? ⟨gb364, 1, none⟩ = some (.slice none 0 0) := (blk_cell BK364.out 1).trans rfl; have hfz8_0 := blk_frozen BK364.out 0; have hfz8_1 := blk_frozen BK364.out 1; have hcz9_0 : w6.cell? ⟨gb363, 0, none⟩ = some (.slice A0_0 l0_0.length c0_0) := (blk_cell BK363.out 0).trans rfl; have hcz9_1 : w6.cell? ⟨gb363, 1, none⟩ = some (.slice A0_1 l0_1.length c0_1) := (blk_cell BK363.out 1).trans rfl; have hcz9_2 : w6.cell? ⟨gb363, 2, none⟩ = some (.int .i64 a0_2) := (blk_cell BK363.out 2).trans rfl; have hcz9_3 : w6.cell? ⟨gb363, 3, none⟩ = some (.slice A0_3 l0_3.length c0_3) := (blk_cell BK363.out 3).trans rfl; have hcz9_4 : w6.cell? ⟨gb363, 4, none⟩ = some (.int .i64 a0_4) := (blk_cell BK363.out 4).trans rfl; have hfz9_0 := blk_frozen BK363.out 0; have hfz9_1 := blk_frozen BK363.out 1; have hfz9_2 := blk_frozen BK363.out 2; have hfz9_3 := blk_frozen BK363.out 3; have hfz9_4 := blk_frozen BK363.out 4) | ((with_reducible refine gate_callee (f := 9) rfl ?_); refine goesL_ (some 26) rfl rfl Try.func9 (by kernel_rfl) rfl #[] rfl (by (try simp only [List.map_toArray, List.map_cons, List.map_nil]); first | done | rfl | (simp only [List.length_drop, List.length_take]; rfl)) ?_; (with_reducible refine (portreevelaw03_shown.calls k  t365 _ A2.out).mono ?_); rintro e w10 ⟨rfl, hb⟩; refine ⟨_, rfl, ?_⟩; have n0_ := Aside0.mk (blk_below (g := gb363) (o := .cells #[.slice A0_0 l0_0.length c0_0, .slice A0_1 l0_1.length c0_1, .int .i64 a0_2, .slice A0_3 l0_3.length c0_3, .int .i64 a0_4] 50 (0, 0)) (by (with_reducible repeat (first | refine qN ?_ _ | refine qD ?_ | refine qA ?_ _)); refine blk_far ?_ NB363_364.out _; (with_reducible repeat (first | refine qN ?_ _ | refine qD ?_ | refine qA ?_ _)); refine blk_far ?_ NB363_364.out _; (with_reducible repeat (first | refine qN ?_ _ | refine qD ?_ | refine qA ?_ _)); exact BK363.out) hb); have n1_ := Aside0.mk (blk_below (g := gb364) (o := .cells #[.slice A0_0 l0_0.length c0_0, .slice A0_1 l0_1.length c0_1] 25 (0, 0)) (by (with_reducible repeat (first | refine qN ?_ _ | refine qD ?_ | refine qA ?_ _)); refine blk_put (cs := #[.slice A0_0 l0_0.length c0_0, .slice none 0 0]) ?_ 1 _ rfl; (with_reducible repeat (first | refine qN ?_ _ | refine qD ?_ | refine qA ?_ _)); refine blk_put (cs := #[.slice none 0 0, .slice none 0 0]) ?_ 0 _ rfl; (with_reducible repeat (first | refine qN ?_ _ | refine qD ?_ | refine qA ?_ _)); exact BK364.out) hb); have n2_ := Aside0.mk (below_step (by repeat (first | (with_reducible first | exact HB.out | apply pA | apply pN | apply pD | refine pS ?_ GE363.out | refine pS ?_ GE364.out) | exact HB.out)) hb); clear BK363; clear BK364; clear HB; have BK363 := n0_; have BK364 := n1_; have HB := n2_; clear n0_ n1_ n2_; (try clear hb); (try clear hb2); (try clear hk); (try clear hi)))
  (try simp only [Act.put, List.setIfInBounds_toArray, List.set_cons_zero, List.set_cons_succ])
  go_cut [55] (fun v55 wc => ∃ (kq : Nat) (x55_2 : Bool), v55 = .bool x55_2 ∧ Aside0 (portreevelaw03_DiskReads.j0 kq a0_2 l0_3 a0_4 t365 x55_2 l0_0 l0_1 = some r) ∧ Aside0 (kq ≤ k) ∧ Aside0 (wc.heap[gb363]? = some (.cells #[(.slice A0_0 l0_0.length c0_0), (.slice A0_1 l0_1.length c0_1), .int .i64 a0_2, (.slice A0_3 l0_3.length c0_3), .int .i64 a0_4] 50 (0, 0))) ∧ Aside0 (wc.heap[gb364]? = some (.cells #[(.slice A0_0 l0_0.length c0_0), (.slice A0_1 l0_1.length c0_1)] 25 (0, 0))) ∧ Aside0 (Below w.heap.size w wc))
  case first =>
    have H := HC3.out
    clear HC3
    replace H := Option.bind_eq_some_iff.mp H
    obtain ⟨t366, A110, H⟩ := H
    replace H : (if t366 = true then ((portreeveref03_Right.f k l0_0 l0_1).bind fun t367 => (if t367 = true then (if a0_2 < 0 then (portreevelaw03_DiskReads.j0 k a0_2 l0_3 a0_4 t365 true l0_0 l0_1) else (if a0_2 ≥ 64 then (portreevelaw03_DiskReads.j0 k a0_2 l0_3 a0_4 t365 true l0_0 l0_1) else (if (l0_3.length : Int) = 128 then (if a0_4 < 0 then (portreevelaw03_DiskReads.j0 k a0_2 l0_3 a0_4 t365 true l0_0 l0_1) else (portreevelaw03_DiskReads.j0 k a0_2 l0_3 a0_4 t365 (decide (a0_4 ≥ 64)) l0_0 l0_1)) else (portreevelaw03_DiskReads.j0 k a0_2 l0_3 a0_4 t365 true l0_0 l0_1)))) else (portreevelaw03_DiskReads.j0 k a0_2 l0_3 a0_4 t365 true l0_0 l0_1))) else (portreevelaw03_DiskReads.j0 k a0_2 l0_3 a0_4 t365 true l0_0 l0_1)) = some r := H
    have A11 := Aside0.mk A110
    clear A110
    by_cases c12 : t366 = true
    · subst c12
      have H1 : ((portreeveref03_Right.f k l0_0 l0_1).bind fun t367 => (if t367 = true then (if a0_2 < 0 then (portreevelaw03_DiskReads.j0 k a0_2 l0_3 a0_4 t365 true l0_0 l0_1) else (if a0_2 ≥ 64 then (portreevelaw03_DiskReads.j0 k a0_2 l0_3 a0_4 t365 true l0_0 l0_1) else (if (l0_3.length : Int) = 128 then (if a0_4 < 0 then (portreevelaw03_DiskReads.j0 k a0_2 l0_3 a0_4 t365 true l0_0 l0_1) else (portreevelaw03_DiskReads.j0 k a0_2 l0_3 a0_4 t365 (decide (a0_4 ≥ 64)) l0_0 l0_1)) else (portreevelaw03_DiskReads.j0 k a0_2 l0_3 a0_4 t365 true l0_0 l0_1)))) else (portreevelaw03_DiskReads.j0 k a0_2 l0_3 a0_4 t365 true l0_0 l0_1))) = some r := by rw [if_pos rfl] at H; exact H
      clear H
      have H := H1
      clear H1
      replace H := Option.bind_eq_some_iff.mp H
      obtain ⟨t367, A130, H⟩ := H
      replace H : (if t367 = true then (if a0_2 < 0 then (portreevelaw03_DiskReads.j0 k a0_2 l0_3 a0_4 t365 true l0_0 l0_1) else (if a0_2 ≥ 64 then (portreevelaw03_DiskReads.j0 k a0_2 l0_3 a0_4 t365 true l0_0 l0_1) else (if (l0_3.length : Int) = 128 then (if a0_4 < 0 then (portreevelaw03_DiskReads.j0 k a0_2 l0_3 a0_4 t365 true l0_0 l0_1) else (portreevelaw03_DiskReads.j0 k a0_2 l0_3 a0_4 t365 (decide (a0_4 ≥ 64)) l0_0 l0_1)) else (portreevelaw03_DiskReads.j0 k a0_2 l0_3 a0_4 t365 true l0_0 l0_1)))) else (portreevelaw03_DiskReads.j0 k a0_2 l0_3 a0_4 t365 true l0_0 l0_1)) = some r := H
      have A13 := Aside0.mk A130
      clear A130
      by_cases c14 : t367 = true
      · subst c14
        have H1 : (if a0_2 < 0 then (portreevelaw03_DiskReads.j0 k a0_2 l0_3 a0_4 t365 true l0_0 l0_1) else (if a0_2 ≥ 64 then (portreevelaw03_DiskReads.j0 k a0_2 l0_3 a0_4 t365 true l0_0 l0_1) else (if (l0_3.length : Int) = 128 then (if a0_4 < 0 then (portreevelaw03_DiskReads.j0 k a0_2 l0_3 a0_4 t365 true l0_0 l0_1) else (portreevelaw03_DiskReads.j0 k a0_2 l0_3 a0_4 t365 (decide (a0_4 ≥ 64)) l0_0 l0_1)) else (portreevelaw03_DiskReads.j0 k a0_2 l0_3 a0_4 t365 true l0_0 l0_1)))) = some r := by rw [if_pos rfl] at H; exact H
        clear H
        have H := H1
        clear H1
        by_cases c15 : a0_2 < 0
        · rw [if_pos c15] at H
          have c15b0 : decide (a0_2 < 0) = true := decide_eq_true c15
          clear c15
          (first | rw [c15b0] | (simp only [i64_w, i32_w]; rw [c15b0]) | skip)
          have H' := Aside0.mk H
          clear H
          have hnb16 := NB364_363.out
          have hnc16 := NB363_364.out
          have hcz17_0 : w10.cell? ⟨gb364, 0, none⟩ = some (.slice A0_0 l0_0.length c0_0) := (blk_cell BK364.out 0).trans rfl
          have hcz17_1 : w10.cell? ⟨gb364, 1, none⟩ = some (.slice A0_1 l0_1.length c0_1) := (blk_cell BK364.out 1).trans rfl
          have hfz17_0 := blk_frozen BK364.out 0
          have hfz17_1 := blk_frozen BK364.out 1
          go_wp2_with (first | ((with_reducible refine gate_callee (f := 10) rfl ?_); refine goesL_ (some 28) rfl rfl Try.func10 (by kernel_rfl) rfl #[.agg #[.slice A0_0 l0_0.length c0_0, .slice A0_1 l0_1.length c0_1]] rfl (by (try simp only [List.map_toArray, List.map_cons, List.map_nil]); first | done | rfl | (simp only [List.length_drop, List.length_take]; rfl)) ?_; (with_reducible refine (portreeveref03_Small.calls k _ _ l0_0 _ _ l0_1 true _ ?side1 ?side2 ?side3 ?side4 A11.out).mono ?_); (case side1 => repeat (first | exact (Kd.C_below HR0_0.out HB.out) | (with_reducible refine Kd.C_alloc ?_ _) | (with_reducible refine Kd.C_drewN ?_ _) | (with_reducible refine Kd.C_drew ?_))); (case side2 => exact HC0_0.out); (case side3 => repeat (first | exact (Kd.C_below HR0_1.out HB.out) | (with_reducible refine Kd.C_alloc ?_ _) | (with_reducible refine Kd.C_drewN ?_ _) | (with_reducible refine Kd.C_drew ?_))); (case side4 => exact HC0_1.out); rintro e w18 ⟨rfl, hb⟩; refine ⟨_, rfl, ?_⟩; have n0_ := Aside0.mk (blk_below (g := gb363) (o := .cells #[.slice A0_0 l0_0.length c0_0, .slice A0_1 l0_1.length c0_1, .int .i64 a0_2, .slice A0_3 l0_3.length c0_3, .int .i64 a0_4] 50 (0, 0)) (by (with_reducible repeat (first | refine qN ?_ _ | refine qD ?_ | refine qA ?_ _)); exact BK363.out) hb); have n1_ := Aside0.mk (blk_below (g := gb364) (o := .cells #[.slice A0_0 l0_0.length c0_0, .slice A0_1 l0_1.length c0_1] 25 (0, 0)) (by (with_reducible repeat (first | refine qN ?_ _ | refine qD ?_ | refine qA ?_ _)); exact BK364.out) hb); have n2_ := Aside0.mk (below_step (by repeat (first | (with_reducible first | exact HB.out | apply pA | apply pN | apply pD | refine pS ?_ GE363.out | refine pS ?_ GE364.out) | exact HB.out)) hb); clear BK363; clear BK364; clear HB; have BK363 := n0_; have BK364 := n1_; have HB := n2_; clear n0_ n1_ n2_; (try clear hb); (try clear hb2); (try clear hk); (try clear hi); have hcz19_0 : w18.cell? ⟨gb364, 0, none⟩ = some (.slice A0_0 l0_0.length c0_0) := (blk_cell BK364.out 0).trans rfl; have hcz19_1 : w18.cell? ⟨gb364, 1, none⟩ = some (.slice A0_1 l0_1.length c0_1) := (blk_cell BK364.out 1).trans rfl; have hfz19_0 := blk_frozen BK364.out 0; have hfz19_1 := blk_frozen BK364.out 1) | (go_at_call 11; (with_reducible refine (portreeveref03_Right.calls k _ _ l0_0 _ _ l0_1 true _ ?side1 ?side2 ?side3 ?side4 A13.out).mono ?_); (case side1 => repeat (first | exact (Kd.C_below HR0_0.out HB.out) | (with_reducible refine Kd.C_alloc ?_ _) | (with_reducible refine Kd.C_drewN ?_ _) | (with_reducible refine Kd.C_drew ?_))); (case side2 => exact HC0_0.out); (case side3 => repeat (first | exact (Kd.C_below HR0_1.out HB.out) | (with_reducible refine Kd.C_alloc ?_ _) | (with_reducible refine Kd.C_drewN ?_ _) | (with_reducible refine Kd.C_drew ?_))); (case side4 => exact HC0_1.out); rintro e w20 ⟨rfl, hb⟩; have n0_ := Aside0.mk (blk_below (g := gb363) (o := .cells #[.slice A0_0 l0_0.length c0_0, .slice A0_1 l0_1.length c0_1, .int .i64 a0_2, .slice A0_3 l0_3.length c0_3, .int .i64 a0_4] 50 (0, 0)) (by (with_reducible repeat (first | refine qN ?_ _ | refine qD ?_ | refine qA ?_ _)); exact BK363.out) hb); have n1_ := Aside0.mk (blk_below (g := gb364) (o := .cells #[.slice A0_0 l0_0.length c0_0, .slice A0_1 l0_1.length c0_1] 25 (0, 0)) (by (with_reducible repeat (first | refine qN ?_ _ | refine qD ?_ | refine qA ?_ _)); exact BK364.out) hb); have n2_ := Aside0.mk (below_step (by repeat (first | (with_reducible first | exact HB.out | apply pA | apply pN | apply pD | refine pS ?_ GE363.out | refine pS ?_ GE364.out) | exact HB.out)) hb); clear BK363; clear BK364; clear HB; have BK363 := n0_; have BK364 := n1_; have HB := n2_; clear n0_ n1_ n2_; (try clear hb); (try clear hb2); (try clear hk); (try clear hi)))
          go_meet
          case rel => exact ⟨_, (true), (by first | rfl | (simp; done) | (simp [*]; done)), H', ⟨by first | omega | exact Nat.le_refl _⟩, ⟨by (with_reducible repeat (first | refine qN ?_ _ | refine qD ?_ | refine qA ?_ _)); exact BK363.out⟩, ⟨by (with_reducible repeat (first | refine qN ?_ _ | refine qD ?_ | refine qA ?_ _)); exact BK364.out⟩, ⟨by repeat (first | (with_reducible first | exact HB.out | apply pA | apply pN | apply pD | refine pS ?_ GE363.out | refine pS ?_ GE364.out) | exact HB.out)⟩⟩
        · rw [if_neg c15] at H
          have c15b0 : decide (a0_2 < 0) = false := decide_eq_false c15
          clear c15
          (first | rw [c15b0] | (simp only [i64_w, i32_w]; rw [c15b0]) | skip)
          by_cases c21 : a0_2 ≥ 64
          · rw [if_pos c21] at H
            have c21b0 : decide (64 ≤ a0_2) = true := decide_eq_true c21
            clear c21
            have H' := Aside0.mk H
            clear H
            have hnb22 := NB364_363.out
            have hnc22 := NB363_364.out
            have hcz23_0 : w10.cell? ⟨gb364, 0, none⟩ = some (.slice A0_0 l0_0.length c0_0) := (blk_cell BK364.out 0).trans rfl
            have hcz23_1 : w10.cell? ⟨gb364, 1, none⟩ = some (.slice A0_1 l0_1.length c0_1) := (blk_cell BK364.out 1).trans rfl
            have hfz23_0 := blk_frozen BK364.out 0
            have hfz23_1 := blk_frozen BK364.out 1
            go_wp2_with (first | ((with_reducible refine gate_callee (f := 10) rfl ?_); refine goesL_ (some 28) rfl rfl Try.func10 (by kernel_rfl) rfl #[.agg #[.slice A0_0 l0_0.length c0_0, .slice A0_1 l0_1.length c0_1]] rfl (by (try simp only [List.map_toArray, List.map_cons, List.map_nil]); first | done | rfl | (simp only [List.length_drop, List.length_take]; rfl)) ?_; (with_reducible refine (portreeveref03_Small.calls k _ _ l0_0 _ _ l0_1 true _ ?side1 ?side2 ?side3 ?side4 A11.out).mono ?_); (case side1 => repeat (first | exact (Kd.C_below HR0_0.out HB.out) | (with_reducible refine Kd.C_alloc ?_ _) | (with_reducible refine Kd.C_drewN ?_ _) | (with_reducible refine Kd.C_drew ?_))); (case side2 => exact HC0_0.out); (case side3 => repeat (first | exact (Kd.C_below HR0_1.out HB.out) | (with_reducible refine Kd.C_alloc ?_ _) | (with_reducible refine Kd.C_drewN ?_ _) | (with_reducible refine Kd.C_drew ?_))); (case side4 => exact HC0_1.out); rintro e w24 ⟨rfl, hb⟩; refine ⟨_, rfl, ?_⟩; have n0_ := Aside0.mk (blk_below (g := gb363) (o := .cells #[.slice A0_0 l0_0.length c0_0, .slice A0_1 l0_1.length c0_1, .int .i64 a0_2, .slice A0_3 l0_3.length c0_3, .int .i64 a0_4] 50 (0, 0)) (by (with_reducible repeat (first | refine qN ?_ _ | refine qD ?_ | refine qA ?_ _)); exact BK363.out) hb); have n1_ := Aside0.mk (blk_below (g := gb364) (o := .cells #[.slice A0_0 l0_0.length c0_0, .slice A0_1 l0_1.length c0_1] 25 (0, 0)) (by (with_reducible repeat (first | refine qN ?_ _ | refine qD ?_ | refine qA ?_ _)); exact BK364.out) hb); have n2_ := Aside0.mk (below_step (by repeat (first | (with_reducible first | exact HB.out | apply pA | apply pN | apply pD | refine pS ?_ GE363.out | refine pS ?_ GE364.out) | exact HB.out)) hb); clear BK363; clear BK364; clear HB; have BK363 := n0_; have BK364 := n1_; have HB := n2_; clear n0_ n1_ n2_; (try clear hb); (try clear hb2); (try clear hk); (try clear hi); have hcz25_0 : w24.cell? ⟨gb364, 0, none⟩ = some (.slice A0_0 l0_0.length c0_0) := (blk_cell BK364.out 0).trans rfl; have hcz25_1 : w24.cell? ⟨gb364, 1, none⟩ = some (.slice A0_1 l0_1.length c0_1) := (blk_cell BK364.out 1).trans rfl; have hfz25_0 := blk_frozen BK364.out 0; have hfz25_1 := blk_frozen BK364.out 1) | (go_at_call 11; (with_reducible refine (portreeveref03_Right.calls k _ _ l0_0 _ _ l0_1 true _ ?side1 ?side2 ?side3 ?side4 A13.out).mono ?_); (case side1 => repeat (first | exact (Kd.C_below HR0_0.out HB.out) | (with_reducible refine Kd.C_alloc ?_ _) | (with_reducible refine Kd.C_drewN ?_ _) | (with_reducible refine Kd.C_drew ?_))); (case side2 => exact HC0_0.out); (case side3 => repeat (first | exact (Kd.C_below HR0_1.out HB.out) | (with_reducible refine Kd.C_alloc ?_ _) | (with_reducible refine Kd.C_drewN ?_ _) | (with_reducible refine Kd.C_drew ?_))); (case side4 => exact HC0_1.out); rintro e w26 ⟨rfl, hb⟩; have n0_ := Aside0.mk (blk_below (g := gb363) (o := .cells #[.slice A0_0 l0_0.length c0_0, .slice A0_1 l0_1.length c0_1, .int .i64 a0_2, .slice A0_3 l0_3.length c0_3, .int .i64 a0_4] 50 (0, 0)) (by (with_reducible repeat (first | refine qN ?_ _ | refine qD ?_ | refine qA ?_ _)); exact BK363.out) hb); have n1_ := Aside0.mk (blk_below (g := gb364) (o := .cells #[.slice A0_0 l0_0.length c0_0, .slice A0_1 l0_1.length c0_1] 25 (0, 0)) (by (with_reducible repeat (first | refine qN ?_ _ | refine qD ?_ | refine qA ?_ _)); exact BK364.out) hb); have n2_ := Aside0.mk (below_step (by repeat (first | (with_reducible first | exact HB.out | apply pA | apply pN | apply pD | refine pS ?_ GE363.out | refine pS ?_ GE364.out) | exact HB.out)) hb); clear BK363; clear BK364; clear HB; have BK363 := n0_; have BK364 := n1_; have HB := n2_; clear n0_ n1_ n2_; (try clear hb); (try clear hb2); (try clear hk); (try clear hi)))
            go_meet
            case rel => exact ⟨_, (true), (by first | rfl | (simp; done) | (simp [*]; done)), H', ⟨by first | omega | exact Nat.le_refl _⟩, ⟨by (with_reducible repeat (first | refine qN ?_ _ | refine qD ?_ | refine qA ?_ _)); exact BK363.out⟩, ⟨by (with_reducible repeat (first | refine qN ?_ _ | refine qD ?_ | refine qA ?_ _)); exact BK364.out⟩, ⟨by repeat (first | (with_reducible first | exact HB.out | apply pA | apply pN | apply pD | refine pS ?_ GE363.out | refine pS ?_ GE364.out) | exact HB.out)⟩⟩
          · rw [if_neg c21] at H
            have c21b0 : decide (64 ≤ a0_2) = false := decide_eq_false c21
            clear c21
            by_cases c27 : (l0_3.length : Int) = 128
            · rw [if_pos c27] at H
              have c27b0 : ((l0_3.length : Int) == 128) = true := beq_iff_eq.mpr c27
              have c27b1 : ((l0_3.length : Int) != 128) = false := bne_eq_false_iff_eq.mpr c27
              clear c27
              by_cases c28 : a0_4 < 0
              · rw [if_pos c28] at H
                have c28b0 : decide (a0_4 < 0) = true := decide_eq_true c28
                clear c28
                have H' := Aside0.mk H
                clear H
                have hnb29 := NB364_363.out
                have hnc29 := NB363_364.out
                have hcz30_0 : w10.cell? ⟨gb364, 0, none⟩ = some (.slice A0_0 l0_0.length c0_0) := (blk_cell BK364.out 0).trans rfl
                have hcz30_1 : w10.cell? ⟨gb364, 1, none⟩ = some (.slice A0_1 l0_1.length c0_1) := (blk_cell BK364.out 1).trans rfl
                have hfz30_0 := blk_frozen BK364.out 0
                have hfz30_1 := blk_frozen BK364.out 1
                go_wp2_with (first | ((with_reducible refine gate_callee (f := 10) rfl ?_); refine goesL_ (some 28) rfl rfl Try.func10 (by kernel_rfl) rfl #[.agg #[.slice A0_0 l0_0.length c0_0, .slice A0_1 l0_1.length c0_1]] rfl (by (try simp only [List.map_toArray, List.map_cons, List.map_nil]); first | done | rfl | (simp only [List.length_drop, List.length_take]; rfl)) ?_; (with_reducible refine (portreeveref03_Small.calls k _ _ l0_0 _ _ l0_1 true _ ?side1 ?side2 ?side3 ?side4 A11.out).mono ?_); (case side1 => repeat (first | exact (Kd.C_below HR0_0.out HB.out) | (with_reducible refine Kd.C_alloc ?_ _) | (with_reducible refine Kd.C_drewN ?_ _) | (with_reducible refine Kd.C_drew ?_))); (case side2 => exact HC0_0.out); (case side3 => repeat (first | exact (Kd.C_below HR0_1.out HB.out) | (with_reducible refine Kd.C_alloc ?_ _) | (with_reducible refine Kd.C_drewN ?_ _) | (with_reducible refine Kd.C_drew ?_))); (case side4 => exact HC0_1.out); rintro e w31 ⟨rfl, hb⟩; refine ⟨_, rfl, ?_⟩; have n0_ := Aside0.mk (blk_below (g := gb363) (o := .cells #[.slice A0_0 l0_0.length c0_0, .slice A0_1 l0_1.length c0_1, .int .i64 a0_2, .slice A0_3 l0_3.length c0_3, .int .i64 a0_4] 50 (0, 0)) (by (with_reducible repeat (first | refine qN ?_ _ | refine qD ?_ | refine qA ?_ _)); exact BK363.out) hb); have n1_ := Aside0.mk (blk_below (g := gb364) (o := .cells #[.slice A0_0 l0_0.length c0_0, .slice A0_1 l0_1.length c0_1] 25 (0, 0)) (by (with_reducible repeat (first | refine qN ?_ _ | refine qD ?_ | refine qA ?_ _)); exact BK364.out) hb); have n2_ := Aside0.mk (below_step (by repeat (first | (with_reducible first | exact HB.out | apply pA | apply pN | apply pD | refine pS ?_ GE363.out | refine pS ?_ GE364.out) | exact HB.out)) hb); clear BK363; clear BK364; clear HB; have BK363 := n0_; have BK364 := n1_; have HB := n2_; clear n0_ n1_ n2_; (try clear hb); (try clear hb2); (try clear hk); (try clear hi); have hcz32_0 : w31.cell? ⟨gb364, 0, none⟩ = some (.slice A0_0 l0_0.length c0_0) := (blk_cell BK364.out 0).trans rfl; have hcz32_1 : w31.cell? ⟨gb364, 1, none⟩ = some (.slice A0_1 l0_1.length c0_1) := (blk_cell BK364.out 1).trans rfl; have hfz32_0 := blk_frozen BK364.out 0; have hfz32_1 := blk_frozen BK364.out 1) | (go_at_call 11; (with_reducible refine (portreeveref03_Right.calls k _ _ l0_0 _ _ l0_1 true _ ?side1 ?side2 ?side3 ?side4 A13.out).mono ?_); (case side1 => repeat (first | exact (Kd.C_below HR0_0.out HB.out) | (with_reducible refine Kd.C_alloc ?_ _) | (with_reducible refine Kd.C_drewN ?_ _) | (with_reducible refine Kd.C_drew ?_))); (case side2 => exact HC0_0.out); (case side3 => repeat (first | exact (Kd.C_below HR0_1.out HB.out) | (with_reducible refine Kd.C_alloc ?_ _) | (with_reducible refine Kd.C_drewN ?_ _) | (with_reducible refine Kd.C_drew ?_))); (case side4 => exact HC0_1.out); rintro e w33 ⟨rfl, hb⟩; have n0_ := Aside0.mk (blk_below (g := gb363) (o := .cells #[.slice A0_0 l0_0.length c0_0, .slice A0_1 l0_1.length c0_1, .int .i64 a0_2, .slice A0_3 l0_3.length c0_3, .int .i64 a0_4] 50 (0, 0)) (by (with_reducible repeat (first | refine qN ?_ _ | refine qD ?_ | refine qA ?_ _)); exact BK363.out) hb); have n1_ := Aside0.mk (blk_below (g := gb364) (o := .cells #[.slice A0_0 l0_0.length c0_0, .slice A0_1 l0_1.length c0_1] 25 (0, 0)) (by (with_reducible repeat (first | refine qN ?_ _ | refine qD ?_ | refine qA ?_ _)); exact BK364.out) hb); have n2_ := Aside0.mk (below_step (by repeat (first | (with_reducible first | exact HB.out | apply pA | apply pN | apply pD | refine pS ?_ GE363.out | refine pS ?_ GE364.out) | exact HB.out)) hb); clear BK363; clear BK364; clear HB; have BK363 := n0_; have BK364 := n1_; have HB := n2_; clear n0_ n1_ n2_; (try clear hb); (try clear hb2); (try clear hk); (try clear hi)))
                go_meet
                case rel => exact ⟨_, (true), (by first | rfl | (simp; done) | (simp [*]; done)), H', ⟨by first | omega | exact Nat.le_refl _⟩, ⟨by (with_reducible repeat (first | refine qN ?_ _ | refine qD ?_ | refine qA ?_ _)); exact BK363.out⟩, ⟨by (with_reducible repeat (first | refine qN ?_ _ | refine qD ?_ | refine qA ?_ _)); exact BK364.out⟩, ⟨by repeat (first | (with_reducible first | exact HB.out | apply pA | apply pN | apply pD | refine pS ?_ GE363.out | refine pS ?_ GE364.out) | exact HB.out)⟩⟩
              · rw [if_neg c28] at H
                have c28b0 : decide (a0_4 < 0) = false := decide_eq_false c28
                clear c28
                have H' := Aside0.mk H
                clear H
                have hnb34 := NB364_363.out
                have hnc34 := NB363_364.out
                have hcz35_0 : w10.cell? ⟨gb364, 0, none⟩ = some (.slice A0_0 l0_0.length c0_0) := (blk_cell BK364.out 0).trans rfl
                have hcz35_1 : w10.cell? ⟨gb364, 1, none⟩ = some (.slice A0_1 l0_1.length c0_1) := (blk_cell BK364.out 1).trans rfl
                have hfz35_0 := blk_frozen BK364.out 0
                have hfz35_1 := blk_frozen BK364.out 1
                go_wp2_with (first | ((with_reducible refine gate_callee (f := 10) rfl ?_); refine goesL_ (some 28) rfl rfl Try.func10 (by kernel_rfl) rfl #[.agg #[.slice A0_0 l0_0.length c0_0, .slice A0_1 l0_1.length c0_1]] rfl (by (try simp only [List.map_toArray, List.map_cons, List.map_nil]); first | done | rfl | (simp only [List.length_drop, List.length_take]; rfl)) ?_; (with_reducible refine (portreeveref03_Small.calls k _ _ l0_0 _ _ l0_1 true _ ?side1 ?side2 ?side3 ?side4 A11.out).mono ?_); (case side1 => repeat (first | exact (Kd.C_below HR0_0.out HB.out) | (with_reducible refine Kd.C_alloc ?_ _) | (with_reducible refine Kd.C_drewN ?_ _) | (with_reducible refine Kd.C_drew ?_))); (case side2 => exact HC0_0.out); (case side3 => repeat (first | exact (Kd.C_below HR0_1.out HB.out) | (with_reducible refine Kd.C_alloc ?_ _) | (with_reducible refine Kd.C_drewN ?_ _) | (with_reducible refine Kd.C_drew ?_))); (case side4 => exact HC0_1.out); rintro e w36 ⟨rfl, hb⟩; refine ⟨_, rfl, ?_⟩; have n0_ := Aside0.mk (blk_below (g := gb363) (o := .cells #[.slice A0_0 l0_0.length c0_0, .slice A0_1 l0_1.length c0_1, .int .i64 a0_2, .slice A0_3 l0_3.length c0_3, .int .i64 a0_4] 50 (0, 0)) (by (with_reducible repeat (first | refine qN ?_ _ | refine qD ?_ | refine qA ?_ _)); exact BK363.out) hb); have n1_ := Aside0.mk (blk_below (g := gb364) (o := .cells #[.slice A0_0 l0_0.length c0_0, .slice A0_1 l0_1.length c0_1] 25 (0, 0)) (by (with_reducible repeat (first | refine qN ?_ _ | refine qD ?_ | refine qA ?_ _)); exact BK364.out) hb); have n2_ := Aside0.mk (below_step (by repeat (first | (with_reducible first | exact HB.out | apply pA | apply pN | apply pD | refine pS ?_ GE363.out | refine pS ?_ GE364.out) | exact HB.out)) hb); clear BK363; clear BK364; clear HB; have BK363 := n0_; have BK364 := n1_; have HB := n2_; clear n0_ n1_ n2_; (try clear hb); (try clear hb2); (try clear hk); (try clear hi); have hcz37_0 : w36.cell? ⟨gb364, 0, none⟩ = some (.slice A0_0 l0_0.length c0_0) := (blk_cell BK364.out 0).trans rfl; have hcz37_1 : w36.cell? ⟨gb364, 1, none⟩ = some (.slice A0_1 l0_1.length c0_1) := (blk_cell BK364.out 1).trans rfl; have hfz37_0 := blk_frozen BK364.out 0; have hfz37_1 := blk_frozen BK364.out 1) | (go_at_call 11; (with_reducible refine (portreeveref03_Right.calls k _ _ l0_0 _ _ l0_1 true _ ?side1 ?side2 ?side3 ?side4 A13.out).mono ?_); (case side1 => repeat (first | exact (Kd.C_below HR0_0.out HB.out) | (with_reducible refine Kd.C_alloc ?_ _) | (with_reducible refine Kd.C_drewN ?_ _) | (with_reducible refine Kd.C_drew ?_))); (case side2 => exact HC0_0.out); (case side3 => repeat (first | exact (Kd.C_below HR0_1.out HB.out) | (with_reducible refine Kd.C_alloc ?_ _) | (with_reducible refine Kd.C_drewN ?_ _) | (with_reducible refine Kd.C_drew ?_))); (case side4 => exact HC0_1.out); rintro e w38 ⟨rfl, hb⟩; have n0_ := Aside0.mk (blk_below (g := gb363) (o := .cells #[.slice A0_0 l0_0.length c0_0, .slice A0_1 l0_1.length c0_1, .int .i64 a0_2, .slice A0_3 l0_3.length c0_3, .int .i64 a0_4] 50 (0, 0)) (by (with_reducible repeat (first | refine qN ?_ _ | refine qD ?_ | refine qA ?_ _)); exact BK363.out) hb); have n1_ := Aside0.mk (blk_below (g := gb364) (o := .cells #[.slice A0_0 l0_0.length c0_0, .slice A0_1 l0_1.length c0_1] 25 (0, 0)) (by (with_reducible repeat (first | refine qN ?_ _ | refine qD ?_ | refine qA ?_ _)); exact BK364.out) hb); have n2_ := Aside0.mk (below_step (by repeat (first | (with_reducible first | exact HB.out | apply pA | apply pN | apply pD | refine pS ?_ GE363.out | refine pS ?_ GE364.out) | exact HB.out)) hb); clear BK363; clear BK364; clear HB; have BK363 := n0_; have BK364 := n1_; have HB := n2_; clear n0_ n1_ n2_; (try clear hb); (try clear hb2); (try clear hk); (try clear hi)))
                go_meet
                case rel => exact ⟨_, (decide (a0_4 ≥ 64)), (by first | rfl | (simp; done) | (simp [*]; done)), H', ⟨by first | omega | exact Nat.le_refl _⟩, ⟨by (with_reducible repeat (first | refine qN ?_ _ | refine qD ?_ | refine qA ?_ _)); exact BK363.out⟩, ⟨by (with_reducible repeat (first | refine qN ?_ _ | refine qD ?_ | refine qA ?_ _)); exact BK364.out⟩, ⟨by repeat (first | (with_reducible first | exact HB.out | apply pA | apply pN | apply pD | refine pS ?_ GE363.out | refine pS ?_ GE364.out) | exact HB.out)⟩⟩
            · rw [if_neg c27] at H
              have c27b0 : ((l0_3.length : Int) == 128) = false := beq_eq_false_iff_ne.mpr c27
              have c27b1 : ((l0_3.length : Int) != 128) = true := bne_iff_ne.mpr c27
              have H' := Aside0.mk H
              clear H
              have hnb39 := NB364_363.out
              have hnc39 := NB363_364.out
              have hcz40_0 : w10.cell? ⟨gb364, 0, none⟩ = some (.slice A0_0 l0_0.length c0_0) := (blk_cell BK364.out 0).trans rfl
              have hcz40_1 : w10.cell? ⟨gb364, 1, none⟩ = some (.slice A0_1 l0_1.length c0_1) := (blk_cell BK364.out 1).trans rfl
              have hfz40_0 := blk_frozen BK364.out 0
              have hfz40_1 := blk_frozen BK364.out 1
              go_wp2_with (first | ((with_reducible refine gate_callee (f := 10) rfl ?_); refine goesL_ (some 28) rfl rfl Try.func10 (by kernel_rfl) rfl #[.agg #[.slice A0_0 l0_0.length c0_0, .slice A0_1 l0_1.length c0_1]] rfl (by (try simp only [List.map_toArray, List.map_cons, List.map_nil]); first | done | rfl | (simp only [List.length_drop, List.length_take]; rfl)) ?_; (with_reducible refine (portreeveref03_Small.calls k _ _ l0_0 _ _ l0_1 true _ ?side1 ?side2 ?side3 ?side4 A11.out).mono ?_); (case side1 => repeat (first | exact (Kd.C_below HR0_0.out HB.out) | (with_reducible refine Kd.C_alloc ?_ _) | (with_reducible refine Kd.C_drewN ?_ _) | (with_reducible refine Kd.C_drew ?_))); (case side2 => exact HC0_0.out); (case side3 => repeat (first | exact (Kd.C_below HR0_1.out HB.out) | (with_reducible refine Kd.C_alloc ?_ _) | (with_reducible refine Kd.C_drewN ?_ _) | (with_reducible refine Kd.C_drew ?_))); (case side4 => exact HC0_1.out); rintro e w41 ⟨rfl, hb⟩; refine ⟨_, rfl, ?_⟩; have n0_ := Aside0.mk (blk_below (g := gb363) (o := .cells #[.slice A0_0 l0_0.length c0_0, .slice A0_1 l0_1.length c0_1, .int .i64 a0_2, .slice A0_3 l0_3.length c0_3, .int .i64 a0_4] 50 (0, 0)) (by (with_reducible repeat (first | refine qN ?_ _ | refine qD ?_ | refine qA ?_ _)); exact BK363.out) hb); have n1_ := Aside0.mk (blk_below (g := gb364) (o := .cells #[.slice A0_0 l0_0.length c0_0, .slice A0_1 l0_1.length c0_1] 25 (0, 0)) (by (with_reducible repeat (first | refine qN ?_ _ | refine qD ?_ | refine qA ?_ _)); exact BK364.out) hb); have n2_ := Aside0.mk (below_step (by repeat (first | (with_reducible first | exact HB.out | apply pA | apply pN | apply pD | refine pS ?_ GE363.out | refine pS ?_ GE364.out) | exact HB.out)) hb); clear BK363; clear BK364; clear HB; have BK363 := n0_; have BK364 := n1_; have HB := n2_; clear n0_ n1_ n2_; (try clear hb); (try clear hb2); (try clear hk); (try clear hi); have hcz42_0 : w41.cell? ⟨gb364, 0, none⟩ = some (.slice A0_0 l0_0.length c0_0) := (blk_cell BK364.out 0).trans rfl; have hcz42_1 : w41.cell? ⟨gb364, 1, none⟩ = some (.slice A0_1 l0_1.length c0_1) := (blk_cell BK364.out 1).trans rfl; have hfz42_0 := blk_frozen BK364.out 0; have hfz42_1 := blk_frozen BK364.out 1) | (go_at_call 11; (with_reducible refine (portreeveref03_Right.calls k _ _ l0_0 _ _ l0_1 true _ ?side1 ?side2 ?side3 ?side4 A13.out).mono ?_); (case side1 => repeat (first | exact (Kd.C_below HR0_0.out HB.out) | (with_reducible refine Kd.C_alloc ?_ _) | (with_reducible refine Kd.C_drewN ?_ _) | (with_reducible refine Kd.C_drew ?_))); (case side2 => exact HC0_0.out); (case side3 => repeat (first | exact (Kd.C_below HR0_1.out HB.out) | (with_reducible refine Kd.C_alloc ?_ _) | (with_reducible refine Kd.C_drewN ?_ _) | (with_reducible refine Kd.C_drew ?_))); (case side4 => exact HC0_1.out); rintro e w43 ⟨rfl, hb⟩; have n0_ := Aside0.mk (blk_below (g := gb363) (o := .cells #[.slice A0_0 l0_0.length c0_0, .slice A0_1 l0_1.length c0_1, .int .i64 a0_2, .slice A0_3 l0_3.length c0_3, .int .i64 a0_4] 50 (0, 0)) (by (with_reducible repeat (first | refine qN ?_ _ | refine qD ?_ | refine qA ?_ _)); exact BK363.out) hb); have n1_ := Aside0.mk (blk_below (g := gb364) (o := .cells #[.slice A0_0 l0_0.length c0_0, .slice A0_1 l0_1.length c0_1] 25 (0, 0)) (by (with_reducible repeat (first | refine qN ?_ _ | refine qD ?_ | refine qA ?_ _)); exact BK364.out) hb); have n2_ := Aside0.mk (below_step (by repeat (first | (with_reducible first | exact HB.out | apply pA | apply pN | apply pD | refine pS ?_ GE363.out | refine pS ?_ GE364.out) | exact HB.out)) hb); clear BK363; clear BK364; clear HB; have BK363 := n0_; have BK364 := n1_; have HB := n2_; clear n0_ n1_ n2_; (try clear hb); (try clear hb2); (try clear hk); (try clear hi)))
              go_meet
              case rel => exact ⟨_, (true), (by first | rfl | (simp; done) | (simp [*]; done)), H', ⟨by first | omega | exact Nat.le_refl _⟩, ⟨by (with_reducible repeat (first | refine qN ?_ _ | refine qD ?_ | refine qA ?_ _)); exact BK363.out⟩, ⟨by (with_reducible repeat (first | refine qN ?_ _ | refine qD ?_ | refine qA ?_ _)); exact BK364.out⟩, ⟨by repeat (first | (with_reducible first | exact HB.out | apply pA | apply pN | apply pD | refine pS ?_ GE363.out | refine pS ?_ GE364.out) | exact HB.out)⟩⟩
      · replace c14 := Bool.eq_false_iff.mpr c14
        subst c14
        have H1 : (portreevelaw03_DiskReads.j0 k a0_2 l0_3 a0_4 t365 true l0_0 l0_1) = some r := by rw [if_neg (show ¬ (false = true) by decide)] at H; exact H
        clear H
        have H := H1
        clear H1
        have H' := Aside0.mk H
        clear H
        have hnb44 := NB364_363.out
        have hnc44 := NB363_364.out
        have hcz45_0 : w10.cell? ⟨gb364, 0, none⟩ = some (.slice A0_0 l0_0.length c0_0) := (blk_cell BK364.out 0).trans rfl
        have hcz45_1 : w10.cell? ⟨gb364, 1, none⟩ = some (.slice A0_1 l0_1.length c0_1) := (blk_cell BK364.out 1).trans rfl
        have hfz45_0 := blk_frozen BK364.out 0
        have hfz45_1 := blk_frozen BK364.out 1
        go_wp2_with (first | ((with_reducible refine gate_callee (f := 10) rfl ?_); refine goesL_ (some 28) rfl rfl Try.func10 (by kernel_rfl) rfl #[.agg #[.slice A0_0 l0_0.length c0_0, .slice A0_1 l0_1.length c0_1]] rfl (by (try simp only [List.map_toArray, List.map_cons, List.map_nil]); first | done | rfl | (simp only [List.length_drop, List.length_take]; rfl)) ?_; (with_reducible refine (portreeveref03_Small.calls k _ _ l0_0 _ _ l0_1 true _ ?side1 ?side2 ?side3 ?side4 A11.out).mono ?_); (case side1 => repeat (first | exact (Kd.C_below HR0_0.out HB.out) | (with_reducible refine Kd.C_alloc ?_ _) | (with_reducible refine Kd.C_drewN ?_ _) | (with_reducible refine Kd.C_drew ?_))); (case side2 => exact HC0_0.out); (case side3 => repeat (first | exact (Kd.C_below HR0_1.out HB.out) | (with_reducible refine Kd.C_alloc ?_ _) | (with_reducible refine Kd.C_drewN ?_ _) | (with_reducible refine Kd.C_drew ?_))); (case side4 => exact HC0_1.out); rintro e w46 ⟨rfl, hb⟩; refine ⟨_, rfl, ?_⟩; have n0_ := Aside0.mk (blk_below (g := gb363) (o := .cells #[.slice A0_0 l0_0.length c0_0, .slice A0_1 l0_1.length c0_1, .int .i64 a0_2, .slice A0_3 l0_3.length c0_3, .int .i64 a0_4] 50 (0, 0)) (by (with_reducible repeat (first | refine qN ?_ _ | refine qD ?_ | refine qA ?_ _)); exact BK363.out) hb); have n1_ := Aside0.mk (blk_below (g := gb364) (o := .cells #[.slice A0_0 l0_0.length c0_0, .slice A0_1 l0_1.length c0_1] 25 (0, 0)) (by (with_reducible repeat (first | refine qN ?_ _ | refine qD ?_ | refine qA ?_ _)); exact BK364.out) hb); have n2_ := Aside0.mk (below_step (by repeat (first | (with_reducible first | exact HB.out | apply pA | apply pN | apply pD | refine pS ?_ GE363.out | refine pS ?_ GE364.out) | exact HB.out)) hb); clear BK363; clear BK364; clear HB; have BK363 := n0_; have BK364 := n1_; have HB := n2_; clear n0_ n1_ n2_; (try clear hb); (try clear hb2); (try clear hk); (try clear hi); have hcz47_0 : w46.cell? ⟨gb364, 0, none⟩ = some (.slice A0_0 l0_0.length c0_0) := (blk_cell BK364.out 0).trans rfl; have hcz47_1 : w46.cell? ⟨gb364, 1, none⟩ = some (.slice A0_1 l0_1.length c0_1) := (blk_cell BK364.out 1).trans rfl; have hfz47_0 := blk_frozen BK364.out 0; have hfz47_1 := blk_frozen BK364.out 1) | (go_at_call 11; (with_reducible refine (portreeveref03_Right.calls k _ _ l0_0 _ _ l0_1 false _ ?side1 ?side2 ?side3 ?side4 A13.out).mono ?_); (case side1 => repeat (first | exact (Kd.C_below HR0_0.out HB.out) | (with_reducible refine Kd.C_alloc ?_ _) | (with_reducible refine Kd.C_drewN ?_ _) | (with_reducible refine Kd.C_drew ?_))); (case side2 => exact HC0_0.out); (case side3 => repeat (first | exact (Kd.C_below HR0_1.out HB.out) | (with_reducible refine Kd.C_alloc ?_ _) | (with_reducible refine Kd.C_drewN ?_ _) | (with_reducible refine Kd.C_drew ?_))); (case side4 => exact HC0_1.out); rintro e w48 ⟨rfl, hb⟩; have n0_ := Aside0.mk (blk_below (g := gb363) (o := .cells #[.slice A0_0 l0_0.length c0_0, .slice A0_1 l0_1.length c0_1, .int .i64 a0_2, .slice A0_3 l0_3.length c0_3, .int .i64 a0_4] 50 (0, 0)) (by (with_reducible repeat (first | refine qN ?_ _ | refine qD ?_ | refine qA ?_ _)); exact BK363.out) hb); have n1_ := Aside0.mk (blk_below (g := gb364) (o := .cells #[.slice A0_0 l0_0.length c0_0, .slice A0_1 l0_1.length c0_1] 25 (0, 0)) (by (with_reducible repeat (first | refine qN ?_ _ | refine qD ?_ | refine qA ?_ _)); exact BK364.out) hb); have n2_ := Aside0.mk (below_step (by repeat (first | (with_reducible first | exact HB.out | apply pA | apply pN | apply pD | refine pS ?_ GE363.out | refine pS ?_ GE364.out) | exact HB.out)) hb); clear BK363; clear BK364; clear HB; have BK363 := n0_; have BK364 := n1_; have HB := n2_; clear n0_ n1_ n2_; (try clear hb); (try clear hb2); (try clear hk); (try clear hi)))
        go_meet
        case rel => exact ⟨_, (true), (by first | rfl | (simp; done) | (simp [*]; done)), H', ⟨by first | omega | exact Nat.le_refl _⟩, ⟨by (with_reducible repeat (first | refine qN ?_ _ | refine qD ?_ | refine qA ?_ _)); exact BK363.out⟩, ⟨by (with_reducible repeat (first | refine qN ?_ _ | refine qD ?_ | refine qA ?_ _)); exact BK364.out⟩, ⟨by repeat (first | (with_reducible first | exact HB.out | apply pA | apply pN | apply pD | refine pS ?_ GE363.out | refine pS ?_ GE364.out) | exact HB.out)⟩⟩
    · replace c12 := Bool.eq_false_iff.mpr c12
      subst c12
      have H1 : (portreevelaw03_DiskReads.j0 k a0_2 l0_3 a0_4 t365 true l0_0 l0_1) = some r := by rw [if_neg (show ¬ (false = true) by decide)] at H; exact H
      clear H
      have H := H1
      clear H1
      have H' := Aside0.mk H
      clear H
      have hnb49 := NB364_363.out
      have hnc49 := NB363_364.out
      have hcz50_0 : w10.cell? ⟨gb364, 0, none⟩ = some (.slice A0_0 l0_0.length c0_0) := (blk_cell BK364.out 0).trans rfl
      have hcz50_1 : w10.cell? ⟨gb364, 1, none⟩ = some (.slice A0_1 l0_1.length c0_1) := (blk_cell BK364.out 1).trans rfl
      have hfz50_0 := blk_frozen BK364.out 0
      have hfz50_1 := blk_frozen BK364.out 1
      go_wp2_with (first | ((with_reducible refine gate_callee (f := 10) rfl ?_); refine goesL_ (some 28) rfl rfl Try.func10 (by kernel_rfl) rfl #[.agg #[.slice A0_0 l0_0.length c0_0, .slice A0_1 l0_1.length c0_1]] rfl (by (try simp only [List.map_toArray, List.map_cons, List.map_nil]); first | done | rfl | (simp only [List.length_drop, List.length_take]; rfl)) ?_; (with_reducible refine (portreeveref03_Small.calls k _ _ l0_0 _ _ l0_1 false _ ?side1 ?side2 ?side3 ?side4 A11.out).mono ?_); (case side1 => repeat (first | exact (Kd.C_below HR0_0.out HB.out) | (with_reducible refine Kd.C_alloc ?_ _) | (with_reducible refine Kd.C_drewN ?_ _) | (with_reducible refine Kd.C_drew ?_))); (case side2 => exact HC0_0.out); (case side3 => repeat (first | exact (Kd.C_below HR0_1.out HB.out) | (with_reducible refine Kd.C_alloc ?_ _) | (with_reducible refine Kd.C_drewN ?_ _) | (with_reducible refine Kd.C_drew ?_))); (case side4 => exact HC0_1.out); rintro e w51 ⟨rfl, hb⟩; refine ⟨_, rfl, ?_⟩; have n0_ := Aside0.mk (blk_below (g := gb363) (o := .cells #[.slice A0_0 l0_0.length c0_0, .slice A0_1 l0_1.length c0_1, .int .i64 a0_2, .slice A0_3 l0_3.length c0_3, .int .i64 a0_4] 50 (0, 0)) (by (with_reducible repeat (first | refine qN ?_ _ | refine qD ?_ | refine qA ?_ _)); exact BK363.out) hb); have n1_ := Aside0.mk (blk_below (g := gb364) (o := .cells #[.slice A0_0 l0_0.length c0_0, .slice A0_1 l0_1.length c0_1] 25 (0, 0)) (by (with_reducible repeat (first | refine qN ?_ _ | refine qD ?_ | refine qA ?_ _)); exact BK364.out) hb); have n2_ := Aside0.mk (below_step (by repeat (first | (with_reducible first | exact HB.out | apply pA | apply pN | apply pD | refine pS ?_ GE363.out | refine pS ?_ GE364.out) | exact HB.out)) hb); clear BK363; clear BK364; clear HB; have BK363 := n0_; have BK364 := n1_; have HB := n2_; clear n0_ n1_ n2_; (try clear hb); (try clear hb2); (try clear hk); (try clear hi)))
      go_meet
      case rel => exact ⟨_, (true), (by first | rfl | (simp; done) | (simp [*]; done)), H', ⟨by first | omega | exact Nat.le_refl _⟩, ⟨by (with_reducible repeat (first | refine qN ?_ _ | refine qD ?_ | refine qA ?_ _)); exact BK363.out⟩, ⟨by (with_reducible repeat (first | refine qN ?_ _ | refine qD ?_ | refine qA ?_ _)); exact BK364.out⟩, ⟨by repeat (first | (with_reducible first | exact HB.out | apply pA | apply pN | apply pD | refine pS ?_ GE363.out | refine pS ?_ GE364.out) | exact HB.out)⟩⟩
  case rest =>
    clear HC3
    try clear c1
    try clear c2
    try clear p2
    try clear c3
    try clear c4
    try clear c5
    try clear c7
    try clear c9
    try clear c10
    try clear c12
    try clear c14
    try clear c15
    try clear c15b0
    try clear c16
    try clear c21
    try clear c21b0
    try clear c22
    try clear c27
    try clear c27b0
    try clear c27b1
    try clear c28
    try clear c28b0
    try clear c29
    try clear c34
    try clear c39
    try clear c44
    try clear c49
    try clear hcz17_0
    try clear hcz17_1
    try clear hcz19_0
    try clear hcz19_1
    try clear hcz23_0
    try clear hcz23_1
    try clear hcz25_0
    try clear hcz25_1
    try clear hcz30_0
    try clear hcz30_1
    try clear hcz32_0
    try clear hcz32_1
    try clear hcz35_0
    try clear hcz35_1
    try clear hcz37_0
    try clear hcz37_1
    try clear hcz40_0
    try clear hcz40_1
    try clear hcz42_0
    try clear hcz42_1
    try clear hcz45_0
    try clear hcz45_1
    try clear hcz47_0
    try clear hcz47_1
    try clear hcz50_0
    try clear hcz50_1
    try clear hcz5_0
    try clear hcz5_1
    try clear hcz5_2
    try clear hcz5_3
    try clear hcz5_4
    try clear hcz8_0
    try clear hcz8_1
    try clear hcz9_0
    try clear hcz9_1
    try clear hcz9_2
    try clear hcz9_3
    try clear hcz9_4
    try clear hfz17_0
    try clear hfz17_1
    try clear hfz19_0
    try clear hfz19_1
    try clear hfz23_0
    try clear hfz23_1
    try clear hfz25_0
    try clear hfz25_1
    try clear hfz30_0
    try clear hfz30_1
    try clear hfz32_0
    try clear hfz32_1
    try clear hfz35_0
    try clear hfz35_1
    try clear hfz37_0
    try clear hfz37_1
    try clear hfz40_0
    try clear hfz40_1
    try clear hfz42_0
    try clear hfz42_1
    try clear hfz45_0
    try clear hfz45_1
    try clear hfz47_0
    try clear hfz47_1
    try clear hfz50_0
    try clear hfz50_1
    try clear hfz5_0
    try clear hfz5_1
    try clear hfz5_2
    try clear hfz5_3
    try clear hfz5_4
    try clear hfz8_0
    try clear hfz8_1
    try clear hfz9_0
    try clear hfz9_1
    try clear hfz9_2
    try clear hfz9_3
    try clear hfz9_4
    obtain ⟨kq, x55_2, rfl, HA, HJ2, BK363, BK364, HB⟩ := hcut
    cases kq with
    | zero => exact absurd HA.out (by simp [portreevelaw03_DiskReads.j0])
    | succ kj2 =>
      have H := HA.out
      clear HA
      simp only [portreevelaw03_DiskReads.j0] at H
      by_cases c52 : x55_2 = true
      · subst c52
        have H1 : (some t365) = some r := by rw [if_pos rfl] at H; exact H
        clear H
        have H := H1
        clear H1
        clear hlaw_
        obtain rfl := Option.some.inj H
        go_wp2
        go_ret
        exact ⟨by first | rfl | (simp [errW_none, errW_some] <;> rfl) | (simp [*, errW_none, errW_some] <;> rfl), by repeat (first | (with_reducible first | exact HB.out | apply pA | apply pN | apply pD | refine pS ?_ GE363.out | refine pS ?_ GE364.out) | exact HB.out)⟩
      · replace c52 := Bool.eq_false_iff.mpr c52
        subst c52
        have H1 : ((disk_Write.f l0_0 l0_1 a0_2 l0_3).bind fun bt368 => ((disk_Read.f kj2 bt368.1 bt368.2.1 a0_2).bind fun bt376 => ((disk_Read.f kj2 bt368.1 bt368.2.1 a0_4).bind fun bt380 => ((disk_Read.f kj2 l0_0 l0_1 a0_4).bind fun bt384 => ((disk_Flush.f kj2 bt368.1 bt368.2.1).bind fun bt388 => ((disk_Read.f kj2 bt388.1 bt388.2 a0_4).bind fun bt394 => (if bt368.2.2 = 0 then (if bt376.2 = 0 then (if bt380.2 = 0 then (if bt384.2 = 0 then (portreevelaw03_DiskReads.j1 kj2 a0_2 l0_3 a0_4 t365 bt376.1 bt380.1 bt384.1 bt394.1 (bt394.2 != 0) bt368.1 bt368.2.1) else (portreevelaw03_DiskReads.j1 kj2 a0_2 l0_3 a0_4 t365 bt376.1 bt380.1 bt384.1 bt394.1 true bt368.1 bt368.2.1)) else (portreevelaw03_DiskReads.j1 kj2 a0_2 l0_3 a0_4 t365 bt376.1 bt380.1 bt384.1 bt394.1 true bt368.1 bt368.2.1)) else (portreevelaw03_DiskReads.j1 kj2 a0_2 l0_3 a0_4 t365 bt376.1 bt380.1 bt384.1 bt394.1 true bt368.1 bt368.2.1)) else (portreevelaw03_DiskReads.j1 kj2 a0_2 l0_3 a0_4 t365 bt376.1 bt380.1 bt384.1 bt394.1 true bt368.1 bt368.2.1)))))))) = some r := by rw [if_neg (show ¬ (false = true) by decide)] at H; exact H
        clear H
        have H := H1
        clear H1
        replace H := Option.bind_eq_some_iff.mp H
        obtain ⟨⟨t368, t371, t374⟩, A530, H⟩ := H
        replace H : ((disk_Read.f kj2 t368 t371 a0_2).bind fun bt376 => ((disk_Read.f kj2 t368 t371 a0_4).bind fun bt380 => ((disk_Read.f kj2 l0_0 l0_1 a0_4).bind fun bt384 => ((disk_Flush.f kj2 t368 t371).bind fun bt388 => ((disk_Read.f kj2 bt388.1 bt388.2 a0_4).bind fun bt394 => (if t374 = 0 then (if bt376.2 = 0 then (if bt380.2 = 0 then (if bt384.2 = 0 then (portreevelaw03_DiskReads.j1 kj2 a0_2 l0_3 a0_4 t365 bt376.1 bt380.1 bt384.1 bt394.1 (bt394.2 != 0) t368 t371) else (portreevelaw03_DiskReads.j1 kj2 a0_2 l0_3 a0_4 t365 bt376.1 bt380.1 bt384.1 bt394.1 true t368 t371)) else (portreevelaw03_DiskReads.j1 kj2 a0_2 l0_3 a0_4 t365 bt376.1 bt380.1 bt384.1 bt394.1 true t368 t371)) else (portreevelaw03_DiskReads.j1 kj2 a0_2 l0_3 a0_4 t365 bt376.1 bt380.1 bt384.1 bt394.1 true t368 t371)) else (portreevelaw03_DiskReads.j1 kj2 a0_2 l0_3 a0_4 t365 bt376.1 bt380.1 bt384.1 bt394.1 true t368 t371))))))) = some r := H
        have A53 := Aside0.mk A530
        clear A530
        replace H := Option.bind_eq_some_iff.mp H
        obtain ⟨⟨t376, t379⟩, A540, H⟩ := H
        replace H : ((disk_Read.f kj2 t368 t371 a0_4).bind fun bt380 => ((disk_Read.f kj2 l0_0 l0_1 a0_4).bind fun bt384 => ((disk_Flush.f kj2 t368 t371).bind fun bt388 => ((disk_Read.f kj2 bt388.1 bt388.2 a0_4).bind fun bt394 => (if t374 = 0 then (if t379 = 0 then (if bt380.2 = 0 then (if bt384.2 = 0 then (portreevelaw03_DiskReads.j1 kj2 a0_2 l0_3 a0_4 t365 t376 bt380.1 bt384.1 bt394.1 (bt394.2 != 0) t368 t371) else (portreevelaw03_DiskReads.j1 kj2 a0_2 l0_3 a0_4 t365 t376 bt380.1 bt384.1 bt394.1 true t368 t371)) else (portreevelaw03_DiskReads.j1 kj2 a0_2 l0_3 a0_4 t365 t376 bt380.1 bt384.1 bt394.1 true t368 t371)) else (portreevelaw03_DiskReads.j1 kj2 a0_2 l0_3 a0_4 t365 t376 bt380.1 bt384.1 bt394.1 true t368 t371)) else (portreevelaw03_DiskReads.j1 kj2 a0_2 l0_3 a0_4 t365 t376 bt380.1 bt384.1 bt394.1 true t368 t371)))))) = some r := H
        have A54 := Aside0.mk A540
        clear A540
        replace H := Option.bind_eq_some_iff.mp H
        obtain ⟨⟨t380, t383⟩, A550, H⟩ := H
        replace H : ((disk_Read.f kj2 l0_0 l0_1 a0_4).bind fun bt384 => ((disk_Flush.f kj2 t368 t371).bind fun bt388 => ((disk_Read.f kj2 bt388.1 bt388.2 a0_4).bind fun bt394 => (if t374 = 0 then (if t379 = 0 then (if t383 = 0 then (if bt384.2 = 0 then (portreevelaw03_DiskReads.j1 kj2 a0_2 l0_3 a0_4 t365 t376 t380 bt384.1 bt394.1 (bt394.2 != 0) t368 t371) else (portreevelaw03_DiskReads.j1 kj2 a0_2 l0_3 a0_4 t365 t376 t380 bt384.1 bt394.1 true t368 t371)) else (portreevelaw03_DiskReads.j1 kj2 a0_2 l0_3 a0_4 t365 t376 t380 bt384.1 bt394.1 true t368 t371)) else (portreevelaw03_DiskReads.j1 kj2 a0_2 l0_3 a0_4 t365 t376 t380 bt384.1 bt394.1 true t368 t371)) else (portreevelaw03_DiskReads.j1 kj2 a0_2 l0_3 a0_4 t365 t376 t380 bt384.1 bt394.1 true t368 t371))))) = some r := H
        have A55 := Aside0.mk A550
        clear A550
        replace H := Option.bind_eq_some_iff.mp H
        obtain ⟨⟨t384, t387⟩, A560, H⟩ := H
        replace H : ((disk_Flush.f kj2 t368 t371).bind fun bt388 => ((disk_Read.f kj2 bt388.1 bt388.2 a0_4).bind fun bt394 => (if t374 = 0 then (if t379 = 0 then (if t383 = 0 then (if t387 = 0 then (portreevelaw03_DiskReads.j1 kj2 a0_2 l0_3 a0_4 t365 t376 t380 t384 bt394.1 (bt394.2 != 0) t368 t371) else (portreevelaw03_DiskReads.j1 kj2 a0_2 l0_3 a0_4 t365 t376 t380 t384 bt394.1 true t368 t371)) else (portreevelaw03_DiskReads.j1 kj2 a0_2 l0_3 a0_4 t365 t376 t380 t384 bt394.1 true t368 t371)) else (portreevelaw03_DiskReads.j1 kj2 a0_2 l0_3 a0_4 t365 t376 t380 t384 bt394.1 true t368 t371)) else (portreevelaw03_DiskReads.j1 kj2 a0_2 l0_3 a0_4 t365 t376 t380 t384 bt394.1 true t368 t371)))) = some r := H
        have A56 := Aside0.mk A560
        clear A560
        replace H := Option.bind_eq_some_iff.mp H
        obtain ⟨⟨t388, t391⟩, A570, H⟩ := H
        replace H : ((disk_Read.f kj2 t388 t391 a0_4).bind fun bt394 => (if t374 = 0 then (if t379 = 0 then (if t383 = 0 then (if t387 = 0 then (portreevelaw03_DiskReads.j1 kj2 a0_2 l0_3 a0_4 t365 t376 t380 t384 bt394.1 (bt394.2 != 0) t368 t371) else (portreevelaw03_DiskReads.j1 kj2 a0_2 l0_3 a0_4 t365 t376 t380 t384 bt394.1 true t368 t371)) else (portreevelaw03_DiskReads.j1 kj2 a0_2 l0_3 a0_4 t365 t376 t380 t384 bt394.1 true t368 t371)) else (portreevelaw03_DiskReads.j1 kj2 a0_2 l0_3 a0_4 t365 t376 t380 t384 bt394.1 true t368 t371)) else (portreevelaw03_DiskReads.j1 kj2 a0_2 l0_3 a0_4 t365 t376 t380 t384 bt394.1 true t368 t371))) = some r := H
        have A57 := Aside0.mk A570
        clear A570
        replace H := Option.bind_eq_some_iff.mp H
        obtain ⟨⟨t394, t397⟩, A580, H⟩ := H
        replace H : (if t374 = 0 then (if t379 = 0 then (if t383 = 0 then (if t387 = 0 then (portreevelaw03_DiskReads.j1 kj2 a0_2 l0_3 a0_4 t365 t376 t380 t384 t394 (t397 != 0) t368 t371) else (portreevelaw03_DiskReads.j1 kj2 a0_2 l0_3 a0_4 t365 t376 t380 t384 t394 true t368 t371)) else (portreevelaw03_DiskReads.j1 kj2 a0_2 l0_3 a0_4 t365 t376 t380 t384 t394 true t368 t371)) else (portreevelaw03_DiskReads.j1 kj2 a0_2 l0_3 a0_4 t365 t376 t380 t384 t394 true t368 t371)) else (portreevelaw03_DiskReads.j1 kj2 a0_2 l0_3 a0_4 t365 t376 t380 t384 t394 true t368 t371)) = some r := H
        have A58 := Aside0.mk A580
        clear A580
        have HC59 := Aside0.mk H
        clear H
        have hnb60 := NB364_363.out
        have hnc60 := NB363_364.out
        have hcz61_0 : wc.cell? ⟨gb364, 0, none⟩ = some (.slice A0_0 l0_0.length c0_0) := (blk_cell BK364.out 0).trans rfl
        have hcz61_1 : wc.cell? ⟨gb364, 1, none⟩ = some (.slice A0_1 l0_1.length c0_1) := (blk_cell BK364.out 1).trans rfl
        have hfz61_0 := blk_frozen BK364.out 0
        have hfz61_1 := blk_frozen BK364.out 1
        go_upto_region 13 with (first | ((with_reducible refine gate_callee (f := 12) rfl ?_); refine goesL_ (some 61) rfl rfl Try.func12 (by kernel_rfl) rfl #[.agg #[.slice A0_0 l0_0.length c0_0, .slice A0_1 l0_1.length c0_1], .int .i64 a0_2, .slice A0_3 l0_3.length c0_3] rfl (by (try simp only [List.map_toArray, List.map_cons, List.map_nil]); first | done | rfl | (simp only [List.length_drop, List.length_take]; rfl)) ?_; (with_reducible refine (disk_Write.calls (fun k_ => k_ < w.heap.size) _ _ l0_0 (fun k_ => k_ < w.heap.size) _ _ l0_1 a0_2 _ _ l0_3 t368 t371 t374 _ ?side1 ?side2 ?side3 ?side4 A53.out).mono ?_); (case side1 => exact Kd.V_mk HC0_0.out (Kd.F_below (Kd.C_F (Kd.heap_slice 5 (Kd.heap_int .u8)) HR0_0.out) (by repeat (first | (with_reducible first | exact HB.out | apply pA | apply pN | apply pD | refine pS ?_ GE363.out | refine pS ?_ GE364.out) | exact HB.out)))); (case side2 => exact Kd.V_mk HC0_1.out (Kd.F_below (Kd.C_F k47_heap HR0_1.out) (by repeat (first | (with_reducible first | exact HB.out | apply pA | apply pN | apply pD | refine pS ?_ GE363.out | refine pS ?_ GE364.out) | exact HB.out)))); (case side3 => repeat (first | exact (Kd.C_below HR0_3.out HB.out) | (with_reducible refine Kd.C_alloc ?_ _) | (with_reducible refine Kd.C_drewN ?_ _) | (with_reducible refine Kd.C_drew ?_))); (case side4 => exact HC0_3.out); rintro e w62 ⟨v369, v372, rfl, ho0, ho1, hb⟩; refine ⟨_, rfl, ?_⟩; have n0_ := Aside0.mk (Kd.V_lower (Kd.V_mono (ok' := fun k_ => k_ ≠ gb363 ∧ k_ ≠ gb364) ho0 (fun k_ hk_ => ⟨Or.elim hk_ (fun hs_ => Or.elim hs_ (fun hs_ => fun e_ => Nat.not_le.2 hs_ (by rw [e_]; exact GW363.out)) (fun hs_ => fun e_ => Nat.not_le.2 hs_ (by rw [e_]; exact GW363.out))) (fun hn_ => (Kd.freshB (g := gb363) (o := .cells #[.slice A0_0 l0_0.length c0_0, .slice A0_1 l0_1.length c0_1, .int .i64 a0_2, .slice A0_3 l0_3.length c0_3, .int .i64 a0_4] 50 (0, 0)) (by (with_reducible repeat (first | refine qN ?_ _ | refine qD ?_ | refine qA ?_ _)); exact BK363.out) k_ hn_)), Or.elim hk_ (fun hs_ => Or.elim hs_ (fun hs_ => fun e_ => Nat.not_le.2 hs_ (by rw [e_]; exact GW364.out)) (fun hs_ => fun e_ => Nat.not_le.2 hs_ (by rw [e_]; exact GW364.out))) (fun hn_ => (Kd.freshB (g := gb364) (o := .cells #[.slice A0_0 l0_0.length c0_0, .slice A0_1 l0_1.length c0_1] 25 (0, 0)) (by (with_reducible repeat (first | refine qN ?_ _ | refine qD ?_ | refine qA ?_ _)); exact BK364.out) k_ hn_))⟩)) (below_size (by repeat (first | (with_reducible first | exact HB.out | apply pA | apply pN | apply pD | refine pS ?_ GE363.out | refine pS ?_ GE364.out) | exact HB.out)))); have n1_ := Aside0.mk (Kd.V_lower (Kd.V_mono (ok' := fun k_ => k_ ≠ gb363 ∧ k_ ≠ gb364) ho1 (fun k_ hk_ => ⟨Or.elim hk_ (fun hs_ => Or.elim hs_ (fun hs_ => fun e_ => Nat.not_le.2 hs_ (by rw [e_]; exact GW363.out)) (fun hs_ => fun e_ => Nat.not_le.2 hs_ (by rw [e_]; exact GW363.out))) (fun hn_ => (Kd.freshB (g := gb363) (o := .cells #[.slice A0_0 l0_0.length c0_0, .slice A0_1 l0_1.length c0_1, .int .i64 a0_2, .slice A0_3 l0_3.length c0_3, .int .i64 a0_4] 50 (0, 0)) (by (with_reducible repeat (first | refine qN ?_ _ | refine qD ?_ | refine qA ?_ _)); exact BK363.out) k_ hn_)), Or.elim hk_ (fun hs_ => Or.elim hs_ (fun hs_ => fun e_ => Nat.not_le.2 hs_ (by rw [e_]; exact GW364.out)) (fun hs_ => fun e_ => Nat.not_le.2 hs_ (by rw [e_]; exact GW364.out))) (fun hn_ => (Kd.freshB (g := gb364) (o := .cells #[.slice A0_0 l0_0.length c0_0, .slice A0_1 l0_1.length c0_1] 25 (0, 0)) (by (with_reducible repeat (first | refine qN ?_ _ | refine qD ?_ | refine qA ?_ _)); exact BK364.out) k_ hn_))⟩)) (below_size (by repeat (first | (with_reducible first | exact HB.out | apply pA | apply pN | apply pD | refine pS ?_ GE363.out | refine pS ?_ GE364.out) | exact HB.out)))); have n2_ := Aside0.mk (blk_below (g := gb363) (o := .cells #[.slice A0_0 l0_0.length c0_0, .slice A0_1 l0_1.length c0_1, .int .i64 a0_2, .slice A0_3 l0_3.length c0_3, .int .i64 a0_4] 50 (0, 0)) (by (with_reducible repeat (first | refine qN ?_ _ | refine qD ?_ | refine qA ?_ _)); exact BK363.out) hb); have n3_ := Aside0.mk (blk_below (g := gb364) (o := .cells #[.slice A0_0 l0_0.length c0_0, .slice A0_1 l0_1.length c0_1] 25 (0, 0)) (by (with_reducible repeat (first | refine qN ?_ _ | refine qD ?_ | refine qA ?_ _)); exact BK364.out) hb); have n4_ := Aside0.mk (below_step (by repeat (first | (with_reducible first | exact HB.out | apply pA | apply pN | apply pD | refine pS ?_ GE363.out | refine pS ?_ GE364.out) | exact HB.out)) hb); clear BK363; clear BK364; clear HB; have HO370 := n0_; have HO373 := n1_; have BK363 := n2_; have BK364 := n3_; have HB := n4_; clear n0_ n1_ n2_ n3_ n4_; (try clear hb); (try clear hb2); (try clear hk); (try clear hi); (try clear ho0); (try clear ho1)) | ((with_reducible refine gate_dst (N := 8) rfl ?_); (try (refine gate_guard (by rfl) ?_; dsimp only)); refine box_event ?hg (N := 8) ?hd (cs := #[.slice none 0 0, .slice none 0 0]) (t := 25) ?hr ?_; (case hd => rfl); (case hg => rfl); (case hr => first | (go_simp; done) | (go_simp; rfl)); intro gb375 hg w63 hbox hb; have n0_ := Aside0.mk (Kd.V_below (Kd.V_elderB (by (with_reducible repeat (first | apply Kd.V_alloc | apply Kd.V_drewN | apply Kd.V_drew)); exact HO370.out) gb375 (Nat.le_of_eq hg.symm)) hb); have n1_ := Aside0.mk (Kd.V_below (Kd.V_elderB (by (with_reducible repeat (first | apply Kd.V_alloc | apply Kd.V_drewN | apply Kd.V_drew)); exact HO373.out) gb375 (Nat.le_of_eq hg.symm)) hb); have n2_ := Aside0.mk (blk_below (g := gb363) (o := .cells #[.slice A0_0 l0_0.length c0_0, .slice A0_1 l0_1.length c0_1, .int .i64 a0_2, .slice A0_3 l0_3.length c0_3, .int .i64 a0_4] 50 (0, 0)) (by (with_reducible repeat (first | refine qN ?_ _ | refine qD ?_ | refine qA ?_ _)); exact BK363.out) hb); have n3_ := Aside0.mk (blk_below (g := gb364) (o := .cells #[.slice A0_0 l0_0.length c0_0, .slice A0_1 l0_1.length c0_1] 25 (0, 0)) (by (with_reducible repeat (first | refine qN ?_ _ | refine qD ?_ | refine qA ?_ _)); exact BK364.out) hb); have n4_ := Aside0.mk (below_step (by repeat (first | (with_reducible first | exact HB.out | apply pA | apply pN | apply pD | refine pS ?_ GE363.out | refine pS ?_ GE364.out) | exact HB.out)) hb); have n5_ := Aside0.mk (hbox); have n6_ := Aside0.mk ((by rw [hg]; exact (below_size (by repeat (first | (with_reducible first | exact HB.out | apply pA | apply pN | apply pD | refine pS ?_ GE363.out | refine pS ?_ GE364.out) | exact HB.out))) : w.heap.size ≤ gb375)); have n7_ := Aside0.mk ((by rw [hg]; exact (below_size (by repeat (first | (with_reducible first | exact HB.out | apply pA | apply pN | apply pD | refine pS ?_ GE363.out | refine pS ?_ GE364.out) | exact HB.out))) : w.heap.size ≤ gb375)); have n8_ := Aside0.mk ((by rw [hg]; exact Nat.ne_of_lt (blk_lt (g := gb363) (o := .cells #[.slice A0_0 l0_0.length c0_0, .slice A0_1 l0_1.length c0_1, .int .i64 a0_2, .slice A0_3 l0_3.length c0_3, .int .i64 a0_4] 50 (0, 0)) (by (with_reducible repeat (first | refine qN ?_ _ | refine qD ?_ | refine qA ?_ _)); exact BK363.out)) : gb363 ≠ gb375)); have n9_ := Aside0.mk ((by rw [hg]; exact Nat.ne_of_gt (blk_lt (g := gb363) (o := .cells #[.slice A0_0 l0_0.length c0_0, .slice A0_1 l0_1.length c0_1, .int .i64 a0_2, .slice A0_3 l0_3.length c0_3, .int .i64 a0_4] 50 (0, 0)) (by (with_reducible repeat (first | refine qN ?_ _ | refine qD ?_ | refine qA ?_ _)); exact BK363.out)) : gb375 ≠ gb363)); have n10_ := Aside0.mk ((by rw [hg]; exact Nat.ne_of_lt (blk_lt (g := gb364) (o := .cells #[.slice A0_0 l0_0.length c0_0, .slice A0_1 l0_1.length c0_1] 25 (0, 0)) (by (with_reducible repeat (first | refine qN ?_ _ | refine qD ?_ | refine qA ?_ _)); exact BK364.out)) : gb364 ≠ gb375)); have n11_ := Aside0.mk ((by rw [hg]; exact Nat.ne_of_gt (blk_lt (g := gb364) (o := .cells #[.slice A0_0 l0_0.length c0_0, .slice A0_1 l0_1.length c0_1] 25 (0, 0)) (by (with_reducible repeat (first | refine qN ?_ _ | refine qD ?_ | refine qA ?_ _)); exact BK364.out)) : gb375 ≠ gb364)); clear HO370; clear HO373; clear BK363; clear BK364; clear HB; have HO370 := n0_; have HO373 := n1_; have BK363 := n2_; have BK364 := n3_; have HB := n4_; have BK375 := n5_; have GW375 := n6_; have GE375 := n7_; have NB363_375 := n8_; have NB375_363 := n9_; have NB364_375 := n10_; have NB375_364 := n11_; clear n0_ n1_ n2_ n3_ n4_ n5_ n6_ n7_ n8_ n9_ n10_ n11_; clear hb hbox hg; obtain ⟨Ao64, co64, eo64⟩ := Kd.V_slice HO370.out; subst eo64; have hnb65 := NB375_363.out; have hnc65 := NB363_375.out; have hnb66 := NB375_364.out; have hnc66 := NB364_375.out; have hcz67_0 : w63.cell? ⟨gb375, 0, none⟩ = some (.slice none 0 0) := (blk_cell BK375.out 0).trans rfl; have hcz67_1 : w63.cell? ⟨gb375, 1, none⟩ = some (.slice none 0 0) := (blk_cell BK375.out 1).trans rfl; have hfz67_0 := blk_frozen BK375.out 0; have hfz67_1 := blk_frozen BK375.out 1; obtain ⟨Ao68, co68, eo68⟩ := Kd.V_slice HO373.out; subst eo68) | ((with_reducible refine gate_store (t := 25) (p := 8) rfl ?_); refine store_event (t := 25) (p := 8) (v := ?vo_w69) (w1 := ((w63.setCell ⟨gb375, 0, none⟩ (.slice Ao64 t368.length co64)).setCell ⟨gb375, 1, none⟩ (.slice Ao68 t371.length co68))) ?hg ?ho ?hn ?hr ?_; (case ho => rfl); (case hg => rfl); (case hn => rfl); (case hr => first | (go_simp; done) | (go_simp; rfl)); intro w69 hw; have n0_ : Aside0 (Kd.V (Kd.slice 5 (Kd.int .u8)) 26 w69 w.heap.size (fun k_ => k_ ≠ gb363 ∧ k_ ≠ gb364 ∧ k_ ≠ gb375) (.slice Ao64 t368.length co64) t368) := ⟨(by rw [hw]; exact (by (with_reducible repeat (first | apply Kd.V_alloc | apply Kd.V_drewN | apply Kd.V_drew)); exact Kd.V_mono (Kd.V_far (p := ⟨gb375, 1, none⟩) (Kd.V_far (p := ⟨gb375, 0, none⟩) (Kd.V_mono HO370.out (fun k_ hk => (⟨hk, hk.2⟩ : _ ∧ k_ ≠ gb375))) (fun _ hk => hk.2) (.slice Ao64 t368.length co64)) (fun _ hk => hk.2) (.slice Ao68 t371.length co68)) (fun _ hk => ⟨hk.1.1.1, ⟨hk.1.1.2, hk.1.2⟩⟩)))⟩; have n1_ : Aside0 (Kd.V k47 47 w69 w.heap.size (fun k_ => k_ ≠ gb363 ∧ k_ ≠ gb364 ∧ k_ ≠ gb375) (.slice Ao68 t371.length co68) t371) := ⟨(by rw [hw]; exact (by (with_reducible repeat (first | apply Kd.V_alloc | apply Kd.V_drewN | apply Kd.V_drew)); exact Kd.V_mono (Kd.V_far (p := ⟨gb375, 1, none⟩) (Kd.V_far (p := ⟨gb375, 0, none⟩) (Kd.V_mono HO373.out (fun k_ hk => (⟨hk, hk.2⟩ : _ ∧ k_ ≠ gb375))) (fun _ hk => hk.2) (.slice Ao64 t368.length co64)) (fun _ hk => hk.2) (.slice Ao68 t371.length co68)) (fun _ hk => ⟨hk.1.1.1, ⟨hk.1.1.2, hk.1.2⟩⟩)))⟩; have n2_ : Aside0 (w69.heap[gb363]? = some (.cells #[.slice A0_0 l0_0.length c0_0, .slice A0_1 l0_1.length c0_1, .int .i64 a0_2, .slice A0_3 l0_3.length c0_3, .int .i64 a0_4] 50 (0, 0))) := ⟨(by rw [hw]; exact (by (with_reducible repeat (first | refine qN ?_ _ | refine qD ?_ | refine qA ?_ _)); refine blk_far ?_ NB363_375.out _; (with_reducible repeat (first | refine qN ?_ _ | refine qD ?_ | refine qA ?_ _)); refine blk_far ?_ NB363_375.out _; (with_reducible repeat (first | refine qN ?_ _ | refine qD ?_ | refine qA ?_ _)); exact BK363.out))⟩; have n3_ : Aside0 (w69.heap[gb364]? = some (.cells #[.slice A0_0 l0_0.length c0_0, .slice A0_1 l0_1.length c0_1] 25 (0, 0))) := ⟨(by rw [hw]; exact (by (with_reducible repeat (first | refine qN ?_ _ | refine qD ?_ | refine qA ?_ _)); refine blk_far ?_ NB364_375.out _; (with_reducible repeat (first | refine qN ?_ _ | refine qD ?_ | refine qA ?_ _)); refine blk_far ?_ NB364_375.out _; (with_reducible repeat (first | refine qN ?_ _ | refine qD ?_ | refine qA ?_ _)); exact BK364.out))⟩; have n4_ : Aside0 (w69.heap[gb375]? = some (.cells #[.slice Ao64 t368.length co64, .slice Ao68 t371.length co68] 25 (0, 0))) := ⟨(by rw [hw]; exact (by (with_reducible repeat (first | refine qN ?_ _ | refine qD ?_ | refine qA ?_ _)); refine blk_put (cs := #[.slice Ao64 t368.length co64, .slice none 0 0]) ?_ 1 _ rfl; (with_reducible repeat (first | refine qN ?_ _ | refine qD ?_ | refine qA ?_ _)); refine blk_put (cs := #[.slice none 0 0, .slice none 0 0]) ?_ 0 _ rfl; (with_reducible repeat (first | refine qN ?_ _ | refine qD ?_ | refine qA ?_ _)); exact BK375.out))⟩; have n5_ : Aside0 (Below w.heap.size w w69) := ⟨(by rw [hw]; exact (by repeat (first | (with_reducible first | exact HB.out | apply pA | apply pN | apply pD | refine pS ?_ GE363.out | refine pS ?_ GE364.out | refine pS ?_ GE375.out) | exact HB.out)))⟩; clear hw; clear HO370; clear HO373; clear BK363; clear BK364; clear BK375; clear HB; have HO370 := n0_; have HO373 := n1_; have BK363 := n2_; have BK364 := n3_; have BK375 := n4_; have HB := n5_; clear n0_ n1_ n2_ n3_ n4_ n5_; have hcz70_0 : w69.cell? ⟨gb375, 0, none⟩ = some (.slice Ao64 t368.length co64) := (blk_cell BK375.out 0).trans rfl; have hcz70_1 : w69.cell? ⟨gb375, 1, none⟩ = some (.slice Ao68 t371.length co68) := (blk_cell BK375.out 1).trans rfl; have hfz70_0 := blk_frozen BK375.out 0; have hfz70_1 := blk_frozen BK375.out 1) | ((with_reducible refine gate_callee (f := 14) rfl ?_); refine goesL_ (some 67) rfl rfl Try.func14 (by kernel_rfl) rfl #[.agg #[.slice Ao64 t368.length co64, .slice Ao68 t371.length co68], .int .i64 a0_2] rfl (by (try simp only [List.map_toArray, List.map_cons, List.map_nil]); first | done | rfl | (simp only [List.length_drop, List.length_take]; rfl)) ?_; (with_reducible refine (disk_Read.calls kj2 (fun k_ => (k_ ≠ gb363 ∧ (k_ ≠ gb364 ∧ k_ ≠ gb375))) _ _ t368 (fun k_ => (k_ ≠ gb363 ∧ (k_ ≠ gb364 ∧ k_ ≠ gb375))) _ _ t371 a0_2 t376 t379 _ ?side1 ?side2 A54.out).mono ?_); (case side1 => exact HO370.out); (case side2 => exact HO373.out); rintro e w71 ⟨v377, rfl, ho0, hb⟩; refine ⟨_, rfl, ?_⟩; have n0_ := Aside0.mk (Kd.V_elder' (by (with_reducible repeat (first | apply Kd.V_alloc | apply Kd.V_drewN | apply Kd.V_drew)); exact HO370.out) (Kd.R_base ho0) hb); have n1_ := Aside0.mk (Kd.V_elder' (by (with_reducible repeat (first | apply Kd.V_alloc | apply Kd.V_drewN | apply Kd.V_drew)); exact HO373.out) (Kd.R_base ho0) hb); have n2_ := Aside0.mk (Kd.R_lower (Kd.R_mono (ok' := fun k_ => True) ho0 (fun _ hk_ => trivial)) (below_size (by repeat (first | (with_reducible first | exact HB.out | apply pA | apply pN | apply pD | refine pS ?_ GE363.out | refine pS ?_ GE364.out | refine pS ?_ GE375.out) | exact HB.out)))); have n3_ := Aside0.mk (blk_below (g := gb363) (o := .cells #[.slice A0_0 l0_0.length c0_0, .slice A0_1 l0_1.length c0_1, .int .i64 a0_2, .slice A0_3 l0_3.length c0_3, .int .i64 a0_4] 50 (0, 0)) (by (with_reducible repeat (first | refine qN ?_ _ | refine qD ?_ | refine qA ?_ _)); exact BK363.out) hb); have n4_ := Aside0.mk (blk_below (g := gb364) (o := .cells #[.slice A0_0 l0_0.length c0_0, .slice A0_1 l0_1.length c0_1] 25 (0, 0)) (by (with_reducible repeat (first | refine qN ?_ _ | refine qD ?_ | refine qA ?_ _)); exact BK364.out) hb); have n5_ := Aside0.mk (blk_below (g := gb375) (o := .cells #[.slice Ao64 t368.length co64, .slice Ao68 t371.length co68] 25 (0, 0)) (by (with_reducible repeat (first | refine qN ?_ _ | refine qD ?_ | refine qA ?_ _)); exact BK375.out) hb); have n6_ := Aside0.mk (below_step (by repeat (first | (with_reducible first | exact HB.out | apply pA | apply pN | apply pD | refine pS ?_ GE363.out | refine pS ?_ GE364.out | refine pS ?_ GE375.out) | exact HB.out)) hb); clear HO370; clear HO373; clear BK363; clear BK364; clear BK375; clear HB; have HO370 := n0_; have HO373 := n1_; have HO378 := n2_; have BK363 := n3_; have BK364 := n4_; have BK375 := n5_; have HB := n6_; clear n0_ n1_ n2_ n3_ n4_ n5_ n6_; (try clear hb); (try clear hb2); (try clear hk); (try clear hi); (try clear ho0); have hcz72_0 : w71.cell? ⟨gb375, 0, none⟩ = some (.slice Ao64 t368.length co64) := (blk_cell BK375.out 0).trans rfl; have hcz72_1 : w71.cell? ⟨gb375, 1, none⟩ = some (.slice Ao68 t371.length co68) := (blk_cell BK375.out 1).trans rfl; have hfz72_0 := blk_frozen BK375.out 0; have hfz72_1 := blk_frozen BK375.out 1) | ((with_reducible refine gate_callee (f := 14) rfl ?_); refine goesL_ (some 73) rfl rfl Try.func14 (by kernel_rfl) rfl #[.agg #[.slice Ao64 t368.length co64, .slice Ao68 t371.length co68], .int .i64 a0_4] rfl (by (try simp only [List.map_toArray, List.map_cons, List.map_nil]); first | done | rfl | (simp only [List.length_drop, List.length_take]; rfl)) ?_; (with_reducible refine (disk_Read.calls kj2 (fun k_ => ((k_ ≠ gb363 ∧ (k_ ≠ gb364 ∧ k_ ≠ gb375)) ∧ some k_ ≠ (v377 : Value).ownBlock)) _ _ t368 (fun k_ => ((k_ ≠ gb363 ∧ (k_ ≠ gb364 ∧ k_ ≠ gb375)) ∧ some k_ ≠ (v377 : Value).ownBlock)) _ _ t371 a0_4 t380 t383 _ ?side1 ?side2 A55.out).mono ?_); (case side1 => exact HO370.out); (case side2 => exact HO373.out); rintro e w73 ⟨v381, rfl, ho0, hb⟩; refine ⟨_, rfl, ?_⟩; have n0_ := Aside0.mk (Kd.V_elder' (by (with_reducible repeat (first | apply Kd.V_alloc | apply Kd.V_drewN | apply Kd.V_drew)); exact HO370.out) (Kd.R_base ho0) hb); have n1_ := Aside0.mk (Kd.V_elder' (by (with_reducible repeat (first | apply Kd.V_alloc | apply Kd.V_drewN | apply Kd.V_drew)); exact HO373.out) (Kd.R_base ho0) hb); have n2_ := Aside0.mk (Kd.R_elder' (by (with_reducible repeat (first | apply Kd.R_alloc | apply Kd.R_drewN | apply Kd.R_drew)); exact HO378.out) (Kd.R_base ho0) hb); have n3_ := Aside0.mk (Kd.R_lower (Kd.R_new' (Kd.R_mono (ok' := fun k_ => True) ho0 (fun _ hk_ => trivial)) (Kd.R_lt (by (with_reducible repeat (first | apply Kd.R_alloc | apply Kd.R_drewN | apply Kd.R_drew)); exact HO378.out))) (below_size (by repeat (first | (with_reducible first | exact HB.out | apply pA | apply pN | apply pD | refine pS ?_ GE363.out | refine pS ?_ GE364.out | refine pS ?_ GE375.out) | exact HB.out)))); have n4_ := Aside0.mk (blk_below (g := gb363) (o := .cells #[.slice A0_0 l0_0.length c0_0, .slice A0_1 l0_1.length c0_1, .int .i64 a0_2, .slice A0_3 l0_3.length c0_3, .int .i64 a0_4] 50 (0, 0)) (by (with_reducible repeat (first | refine qN ?_ _ | refine qD ?_ | refine qA ?_ _)); exact BK363.out) hb); have n5_ := Aside0.mk (blk_below (g := gb364) (o := .cells #[.slice A0_0 l0_0.length c0_0, .slice A0_1 l0_1.length c0_1] 25 (0, 0)) (by (with_reducible repeat (first | refine qN ?_ _ | refine qD ?_ | refine qA ?_ _)); exact BK364.out) hb); have n6_ := Aside0.mk (blk_below (g := gb375) (o := .cells #[.slice Ao64 t368.length co64, .slice Ao68 t371.length co68] 25 (0, 0)) (by (with_reducible repeat (first | refine qN ?_ _ | refine qD ?_ | refine qA ?_ _)); exact BK375.out) hb); have n7_ := Aside0.mk (below_step (by repeat (first | (with_reducible first | exact HB.out | apply pA | apply pN | apply pD | refine pS ?_ GE363.out | refine pS ?_ GE364.out | refine pS ?_ GE375.out) | exact HB.out)) hb); clear HO370; clear HO373; clear HO378; clear BK363; clear BK364; clear BK375; clear HB; have HO370 := n0_; have HO373 := n1_; have HO378 := n2_; have HO382 := n3_; have BK363 := n4_; have BK364 := n5_; have BK375 := n6_; have HB := n7_; clear n0_ n1_ n2_ n3_ n4_ n5_ n6_ n7_; (try clear hb); (try clear hb2); (try clear hk); (try clear hi); (try clear ho0); have hcz74_0 : w73.cell? ⟨gb364, 0, none⟩ = some (.slice A0_0 l0_0.length c0_0) := (blk_cell BK364.out 0).trans rfl; have hcz74_1 : w73.cell? ⟨gb364, 1, none⟩ = some (.slice A0_1 l0_1.length c0_1) := (blk_cell BK364.out 1).trans rfl; have hfz74_0 := blk_frozen BK364.out 0; have hfz74_1 := blk_frozen BK364.out 1) | ((with_reducible refine gate_callee (f := 14) rfl ?_); refine goesL_ (some 79) rfl rfl Try.func14 (by kernel_rfl) rfl #[.agg #[.slice A0_0 l0_0.length c0_0, .slice A0_1 l0_1.length c0_1], .int .i64 a0_4] rfl (by (try simp only [List.map_toArray, List.map_cons, List.map_nil]); first | done | rfl | (simp only [List.length_drop, List.length_take]; rfl)) ?_; (with_reducible refine (disk_Read.calls kj2 (fun k_ => k_ < w.heap.size) _ _ l0_0 (fun k_ => k_ < w.heap.size) _ _ l0_1 a0_4 t384 t387 _ ?side1 ?side2 A56.out).mono ?_); (case side1 => exact Kd.V_mk HC0_0.out (Kd.F_below (Kd.C_F (Kd.heap_slice 5 (Kd.heap_int .u8)) HR0_0.out) (by repeat (first | (with_reducible first | exact HB.out | apply pA | apply pN | apply pD | refine pS ?_ GE363.out | refine pS ?_ GE364.out | refine pS ?_ GE375.out) | exact HB.out)))); (case side2 => exact Kd.V_mk HC0_1.out (Kd.F_below (Kd.C_F k47_heap HR0_1.out) (by repeat (first | (with_reducible first | exact HB.out | apply pA | apply pN | apply pD | refine pS ?_ GE363.out | refine pS ?_ GE364.out | refine pS ?_ GE375.out) | exact HB.out)))); rintro e w75 ⟨v385, rfl, ho0, hb⟩; refine ⟨_, rfl, ?_⟩; have n0_ := Aside0.mk (Kd.V_elder' (by (with_reducible repeat (first | apply Kd.V_alloc | apply Kd.V_drewN | apply Kd.V_drew)); exact HO370.out) (Kd.R_base ho0) hb); have n1_ := Aside0.mk (Kd.V_elder' (by (with_reducible repeat (first | apply Kd.V_alloc | apply Kd.V_drewN | apply Kd.V_drew)); exact HO373.out) (Kd.R_base ho0) hb); have n2_ := Aside0.mk (Kd.R_elder' (by (with_reducible repeat (first | apply Kd.R_alloc | apply Kd.R_drewN | apply Kd.R_drew)); exact HO378.out) (Kd.R_base ho0) hb); have n3_ := Aside0.mk (Kd.R_elder' (by (with_reducible repeat (first | apply Kd.R_alloc | apply Kd.R_drewN | apply Kd.R_drew)); exact HO382.out) (Kd.R_base ho0) hb); have n4_ := Aside0.mk (Kd.R_lower (Kd.R_new' (Kd.R_new' (Kd.R_mono (ok' := fun k_ => True) ho0 (fun _ hk_ => trivial)) (Kd.R_lt (by (with_reducible repeat (first | apply Kd.R_alloc | apply Kd.R_drewN | apply Kd.R_drew)); exact HO378.out))) (Kd.R_lt (by (with_reducible repeat (first | apply Kd.R_alloc | apply Kd.R_drewN | apply Kd.R_drew)); exact HO382.out))) (below_size (by repeat (first | (with_reducible first | exact HB.out | apply pA | apply pN | apply pD | refine pS ?_ GE363.out | refine pS ?_ GE364.out | refine pS ?_ GE375.out) | exact HB.out)))); have n5_ := Aside0.mk (blk_below (g := gb363) (o := .cells #[.slice A0_0 l0_0.length c0_0, .slice A0_1 l0_1.length c0_1, .int .i64 a0_2, .slice A0_3 l0_3.length c0_3, .int .i64 a0_4] 50 (0, 0)) (by (with_reducible repeat (first | refine qN ?_ _ | refine qD ?_ | refine qA ?_ _)); exact BK363.out) hb); have n6_ := Aside0.mk (blk_below (g := gb364) (o := .cells #[.slice A0_0 l0_0.length c0_0, .slice A0_1 l0_1.length c0_1] 25 (0, 0)) (by (with_reducible repeat (first | refine qN ?_ _ | refine qD ?_ | refine qA ?_ _)); exact BK364.out) hb); have n7_ := Aside0.mk (blk_below (g := gb375) (o := .cells #[.slice Ao64 t368.length co64, .slice Ao68 t371.length co68] 25 (0, 0)) (by (with_reducible repeat (first | refine qN ?_ _ | refine qD ?_ | refine qA ?_ _)); exact BK375.out) hb); have n8_ := Aside0.mk (below_step (by repeat (first | (with_reducible first | exact HB.out | apply pA | apply pN | apply pD | refine pS ?_ GE363.out | refine pS ?_ GE364.out | refine pS ?_ GE375.out) | exact HB.out)) hb); clear HO370; clear HO373; clear HO378; clear HO382; clear BK363; clear BK364; clear BK375; clear HB; have HO370 := n0_; have HO373 := n1_; have HO378 := n2_; have HO382 := n3_; have HO386 := n4_; have BK363 := n5_; have BK364 := n6_; have BK375 := n7_; have HB := n8_; clear n0_ n1_ n2_ n3_ n4_ n5_ n6_ n7_ n8_; (try clear hb); (try clear hb2); (try clear hk); (try clear hi); (try clear ho0); have hcz76_0 : w75.cell? ⟨gb375, 0, none⟩ = some (.slice Ao64 t368.length co64) := (blk_cell BK375.out 0).trans rfl; have hcz76_1 : w75.cell? ⟨gb375, 1, none⟩ = some (.slice Ao68 t371.length co68) := (blk_cell BK375.out 1).trans rfl; have hfz76_0 := blk_frozen BK375.out 0; have hfz76_1 := blk_frozen BK375.out 1) | ((with_reducible refine gate_callee (f := 18) rfl ?_); refine goesL_ (some 84) rfl rfl Try.func18 (by kernel_rfl) rfl #[.agg #[.slice Ao64 t368.length co64, .slice Ao68 t371.length co68]] rfl (by (try simp only [List.map_toArray, List.map_cons, List.map_nil]); first | done | rfl | (simp only [List.length_drop, List.length_take]; rfl)) ?_; (with_reducible refine (disk_Flush.calls kj2 (fun k_ => ((((k_ ≠ gb363 ∧ (k_ ≠ gb364 ∧ k_ ≠ gb375)) ∧ some k_ ≠ (v377 : Value).ownBlock) ∧ some k_ ≠ (v381 : Value).ownBlock) ∧ some k_ ≠ (v385 : Value).ownBlock)) _ _ t368 _ _ t371 t388 t391 _ ?side1 ?side2 ?side3 A57.out).mono ?_); (case side1 => exact HO370.out); (case side2 => repeat (first | exact (Kd.V_reads' HO373.out).2.2 | (with_reducible refine Kd.C_alloc ?_ _) | (with_reducible refine Kd.C_drewN ?_ _) | (with_reducible refine Kd.C_drew ?_))); (case side3 => exact (Kd.V_reads' HO373.out).2.1); rintro e w77 ⟨v389, v392, rfl, ho0, ho1, hb⟩; refine ⟨_, rfl, ?_⟩; have n0_ := Aside0.mk (Kd.V_mono (Kd.V_told (Kd.V_told (Kd.V_old (by (with_reducible repeat (first | apply Kd.V_alloc | apply Kd.V_drewN | apply Kd.V_drew)); exact HO370.out) hb) (Kd.N_base ho0)) (Kd.N_base ho1)) (fun _ h_ => h_.1)); have n1_ := Aside0.mk (Kd.V_mono (Kd.V_told (Kd.V_told (Kd.V_old (by (with_reducible repeat (first | apply Kd.V_alloc | apply Kd.V_drewN | apply Kd.V_drew)); exact HO373.out) hb) (Kd.N_base ho0)) (Kd.N_base ho1)) (fun _ h_ => h_.1)); have n2_ := Aside0.mk (Kd.R_below (by (with_reducible repeat (first | apply Kd.R_alloc | apply Kd.R_drewN | apply Kd.R_drew)); exact HO378.out) hb); have n3_ := Aside0.mk (Kd.R_below (by (with_reducible repeat (first | apply Kd.R_alloc | apply Kd.R_drewN | apply Kd.R_drew)); exact HO382.out) hb); have n4_ := Aside0.mk (Kd.R_below (by (with_reducible repeat (first | apply Kd.R_alloc | apply Kd.R_drewN | apply Kd.R_drew)); exact HO386.out) hb); have n5_ := Aside0.mk (Kd.N_lower (Kd.N_mono (ok' := fun k_ => some k_ ≠ (v392 : Value).ownBlock ∧ some k_ ≠ (v377 : Value).ownBlock ∧ some k_ ≠ (v381 : Value).ownBlock ∧ some k_ ≠ (v385 : Value).ownBlock ∧ k_ ≠ gb363 ∧ k_ ≠ gb364 ∧ k_ ≠ gb375) ho0 (fun k_ hk_ => ⟨hk_.2, Or.elim hk_.1 (fun hs_ => hs_.1.1.2) (fun hn_ => (Kd.fresh' (Kd.R_lt (by (with_reducible repeat (first | apply Kd.R_alloc | apply Kd.R_drewN | apply Kd.R_drew)); exact HO378.out)) k_ hn_)), Or.elim hk_.1 (fun hs_ => hs_.1.2) (fun hn_ => (Kd.fresh' (Kd.R_lt (by (with_reducible repeat (first | apply Kd.R_alloc | apply Kd.R_drewN | apply Kd.R_drew)); exact HO382.out)) k_ hn_)), Or.elim hk_.1 (fun hs_ => hs_.2) (fun hn_ => (Kd.fresh' (Kd.R_lt (by (with_reducible repeat (first | apply Kd.R_alloc | apply Kd.R_drewN | apply Kd.R_drew)); exact HO386.out)) k_ hn_)), Or.elim hk_.1 (fun hs_ => hs_.1.1.1.1) (fun hn_ => (Kd.freshB (g := gb363) (o := .cells #[.slice A0_0 l0_0.length c0_0, .slice A0_1 l0_1.length c0_1, .int .i64 a0_2, .slice A0_3 l0_3.length c0_3, .int .i64 a0_4] 50 (0, 0)) (by (with_reducible repeat (first | refine qN ?_ _ | refine qD ?_ | refine qA ?_ _)); exact BK363.out) k_ hn_)), Or.elim hk_.1 (fun hs_ => hs_.1.1.1.2.1) (fun hn_ => (Kd.freshB (g := gb364) (o := .cells #[.slice A0_0 l0_0.length c0_0, .slice A0_1 l0_1.length c0_1] 25 (0, 0)) (by (with_reducible repeat (first | refine qN ?_ _ | refine qD ?_ | refine qA ?_ _)); exact BK364.out) k_ hn_)), Or.elim hk_.1 (fun hs_ => hs_.1.1.1.2.2) (fun hn_ => (Kd.freshB (g := gb375) (o := .cells #[.slice Ao64 t368.length co64, .slice Ao68 t371.length co68] 25 (0, 0)) (by (with_reducible repeat (first | refine qN ?_ _ | refine qD ?_ | refine qA ?_ _)); exact BK375.out) k_ hn_))⟩)) (below_size (by repeat (first | (with_reducible first | exact HB.out | apply pA | apply pN | apply pD | refine pS ?_ GE363.out | refine pS ?_ GE364.out | refine pS ?_ GE375.out) | exact HB.out)))); have n6_ := Aside0.mk (Kd.N_lower (Kd.N_mono (ok' := fun k_ => some k_ ≠ (v389 : Value).ownBlock ∧ some k_ ≠ (v377 : Value).ownBlock ∧ some k_ ≠ (v381 : Value).ownBlock ∧ some k_ ≠ (v385 : Value).ownBlock ∧ k_ ≠ gb363 ∧ k_ ≠ gb364 ∧ k_ ≠ gb375) ho1 (fun k_ hk_ => ⟨hk_.2, Or.elim hk_.1 (fun hs_ => hs_.1.1.2) (fun hn_ => (Kd.fresh' (Kd.R_lt (by (with_reducible repeat (first | apply Kd.R_alloc | apply Kd.R_drewN | apply Kd.R_drew)); exact HO378.out)) k_ hn_)), Or.elim hk_.1 (fun hs_ => hs_.1.2) (fun hn_ => (Kd.fresh' (Kd.R_lt (by (with_reducible repeat (first | apply Kd.R_alloc | apply Kd.R_drewN | apply Kd.R_drew)); exact HO382.out)) k_ hn_)), Or.elim hk_.1 (fun hs_ => hs_.2) (fun hn_ => (Kd.fresh' (Kd.R_lt (by (with_reducible repeat (first | apply Kd.R_alloc | apply Kd.R_drewN | apply Kd.R_drew)); exact HO386.out)) k_ hn_)), Or.elim hk_.1 (fun hs_ => hs_.1.1.1.1) (fun hn_ => (Kd.freshB (g := gb363) (o := .cells #[.slice A0_0 l0_0.length c0_0, .slice A0_1 l0_1.length c0_1, .int .i64 a0_2, .slice A0_3 l0_3.length c0_3, .int .i64 a0_4] 50 (0, 0)) (by (with_reducible repeat (first | refine qN ?_ _ | refine qD ?_ | refine qA ?_ _)); exact BK363.out) k_ hn_)), Or.elim hk_.1 (fun hs_ => hs_.1.1.1.2.1) (fun hn_ => (Kd.freshB (g := gb364) (o := .cells #[.slice A0_0 l0_0.length c0_0, .slice A0_1 l0_1.length c0_1] 25 (0, 0)) (by (with_reducible repeat (first | refine qN ?_ _ | refine qD ?_ | refine qA ?_ _)); exact BK364.out) k_ hn_)), Or.elim hk_.1 (fun hs_ => hs_.1.1.1.2.2) (fun hn_ => (Kd.freshB (g := gb375) (o := .cells #[.slice Ao64 t368.length co64, .slice Ao68 t371.length co68] 25 (0, 0)) (by (with_reducible repeat (first | refine qN ?_ _ | refine qD ?_ | refine qA ?_ _)); exact BK375.out) k_ hn_))⟩)) (below_size (by repeat (first | (with_reducible first | exact HB.out | apply pA | apply pN | apply pD | refine pS ?_ GE363.out | refine pS ?_ GE364.out | refine pS ?_ GE375.out) | exact HB.out)))); have n7_ := Aside0.mk (blk_below (g := gb363) (o := .cells #[.slice A0_0 l0_0.length c0_0, .slice A0_1 l0_1.length c0_1, .int .i64 a0_2, .slice A0_3 l0_3.length c0_3, .int .i64 a0_4] 50 (0, 0)) (by (with_reducible repeat (first | refine qN ?_ _ | refine qD ?_ | refine qA ?_ _)); exact BK363.out) hb); have n8_ := Aside0.mk (blk_below (g := gb364) (o := .cells #[.slice A0_0 l0_0.length c0_0, .slice A0_1 l0_1.length c0_1] 25 (0, 0)) (by (with_reducible repeat (first | refine qN ?_ _ | refine qD ?_ | refine qA ?_ _)); exact BK364.out) hb); have n9_ := Aside0.mk (blk_below (g := gb375) (o := .cells #[.slice Ao64 t368.length co64, .slice Ao68 t371.length co68] 25 (0, 0)) (by (with_reducible repeat (first | refine qN ?_ _ | refine qD ?_ | refine qA ?_ _)); exact BK375.out) hb); have n10_ := Aside0.mk (below_step (by repeat (first | (with_reducible first | exact HB.out | apply pA | apply pN | apply pD | refine pS ?_ GE363.out | refine pS ?_ GE364.out | refine pS ?_ GE375.out) | exact HB.out)) hb); clear HO370; clear HO373; clear HO378; clear HO382; clear HO386; clear BK363; clear BK364; clear BK375; clear HB; have HO370 := n0_; have HO373 := n1_; have HO378 := n2_; have HO382 := n3_; have HO386 := n4_; have HO390 := n5_; have HO393 := n6_; have BK363 := n7_; have BK364 := n8_; have BK375 := n9_; have HB := n10_; clear n0_ n1_ n2_ n3_ n4_ n5_ n6_ n7_ n8_ n9_ n10_; (try clear hb); (try clear hb2); (try clear hk); (try clear hi); (try clear ho0); (try clear ho1); obtain ⟨Ao78, co78, eo78⟩ := Kd.N_slice HO390.out; subst eo78; obtain ⟨Ao79, co79, eo79⟩ := Kd.N_slice HO393.out; subst eo79) | ((with_reducible refine gate_callee (f := 14) rfl ?_); refine goesL_ (some 86) rfl rfl Try.func14 (by kernel_rfl) rfl #[.agg #[.slice Ao78 t388.length co78, .slice Ao79 t391.length co79], .int .i64 a0_4] rfl (by (try simp only [List.map_toArray, List.map_cons, List.map_nil]); first | done | rfl | (simp only [List.length_drop, List.length_take]; rfl)) ?_; (with_reducible refine (disk_Read.calls kj2 (fun k_ => (some k_ ≠ (.slice Ao79 t391.length co79 : Value).ownBlock ∧ (some k_ ≠ (v377 : Value).ownBlock ∧ (some k_ ≠ (v381 : Value).ownBlock ∧ (some k_ ≠ (v385 : Value).ownBlock ∧ (k_ ≠ gb363 ∧ (k_ ≠ gb364 ∧ k_ ≠ gb375))))))) _ _ t388 (fun k_ => (some k_ ≠ (.slice Ao78 t388.length co78 : Value).ownBlock ∧ (some k_ ≠ (v377 : Value).ownBlock ∧ (some k_ ≠ (v381 : Value).ownBlock ∧ (some k_ ≠ (v385 : Value).ownBlock ∧ (k_ ≠ gb363 ∧ (k_ ≠ gb364 ∧ k_ ≠ gb375))))))) _ _ t391 a0_4 t394 t397 _ ?side1 ?side2 A58.out).mono ?_); (case side1 => exact Kd.N_V (HO390.out)); (case side2 => exact Kd.N_V (HO393.out)); rintro e w80 ⟨v395, rfl, ho0, hb⟩; refine ⟨_, rfl, ?_⟩; have n0_ := Aside0.mk (Kd.V_elder' (by (with_reducible repeat (first | apply Kd.V_alloc | apply Kd.V_drewN | apply Kd.V_drew)); exact HO370.out) (Kd.R_base ho0) hb); have n1_ := Aside0.mk (Kd.V_elder' (by (with_reducible repeat (first | apply Kd.V_alloc | apply Kd.V_drewN | apply Kd.V_drew)); exact HO373.out) (Kd.R_base ho0) hb); have n2_ := Aside0.mk (Kd.R_elder' (by (with_reducible repeat (first | apply Kd.R_alloc | apply Kd.R_drewN | apply Kd.R_drew)); exact HO378.out) (Kd.R_base ho0) hb); have n3_ := Aside0.mk (Kd.R_elder' (by (with_reducible repeat (first | apply Kd.R_alloc | apply Kd.R_drewN | apply Kd.R_drew)); exact HO382.out) (Kd.R_base ho0) hb); have n4_ := Aside0.mk (Kd.R_elder' (by (with_reducible repeat (first | apply Kd.R_alloc | apply Kd.R_drewN | apply Kd.R_drew)); exact HO386.out) (Kd.R_base ho0) hb); have n5_ := Aside0.mk (Kd.N_elder' (by (with_reducible repeat (first | apply Kd.N_alloc | apply Kd.N_drewN | apply Kd.N_drew)); exact HO390.out) (Kd.R_base ho0) hb); have n6_ := Aside0.mk (Kd.N_elder' (by (with_reducible repeat (first | apply Kd.N_alloc | apply Kd.N_drewN | apply Kd.N_drew)); exact HO393.out) (Kd.R_base ho0) hb); have n7_ := Aside0.mk (Kd.R_lower (Kd.R_new' (Kd.R_new' (Kd.R_new' (Kd.R_mono (ok' := fun k_ => True) ho0 (fun _ hk_ => trivial)) (Kd.R_lt (by (with_reducible repeat (first | apply Kd.R_alloc | apply Kd.R_drewN | apply Kd.R_drew)); exact HO378.out))) (Kd.R_lt (by (with_reducible repeat (first | apply Kd.R_alloc | apply Kd.R_drewN | apply Kd.R_drew)); exact HO382.out))) (Kd.R_lt (by (with_reducible repeat (first | apply Kd.R_alloc | apply Kd.R_drewN | apply Kd.R_drew)); exact HO386.out))) (below_size (by repeat (first | (with_reducible first | exact HB.out | apply pA | apply pN | apply pD | refine pS ?_ GE363.out | refine pS ?_ GE364.out | refine pS ?_ GE375.out) | exact HB.out)))); have n8_ := Aside0.mk (blk_below (g := gb363) (o := .cells #[.slice A0_0 l0_0.length c0_0, .slice A0_1 l0_1.length c0_1, .int .i64 a0_2, .slice A0_3 l0_3.length c0_3, .int .i64 a0_4] 50 (0, 0)) (by (with_reducible repeat (first | refine qN ?_ _ | refine qD ?_ | refine qA ?_ _)); exact BK363.out) hb); have n9_ := Aside0.mk (blk_below (g := gb364) (o := .cells #[.slice A0_0 l0_0.length c0_0, .slice A0_1 l0_1.length c0_1] 25 (0, 0)) (by (with_reducible repeat (first | refine qN ?_ _ | refine qD ?_ | refine qA ?_ _)); exact BK364.out) hb); have n10_ := Aside0.mk (blk_below (g := gb375) (o := .cells #[.slice Ao64 t368.length co64, .slice Ao68 t371.length co68] 25 (0, 0)) (by (with_reducible repeat (first | refine qN ?_ _ | refine qD ?_ | refine qA ?_ _)); exact BK375.out) hb); have n11_ := Aside0.mk (below_step (by repeat (first | (with_reducible first | exact HB.out | apply pA | apply pN | apply pD | refine pS ?_ GE363.out | refine pS ?_ GE364.out | refine pS ?_ GE375.out) | exact HB.out)) hb); clear HO370; clear HO373; clear HO378; clear HO382; clear HO386; clear HO390; clear HO393; clear BK363; clear BK364; clear BK375; clear HB; have HO370 := n0_; have HO373 := n1_; have HO378 := n2_; have HO382 := n3_; have HO386 := n4_; have HO390 := n5_; have HO393 := n6_; have HO396 := n7_; have BK363 := n8_; have BK364 := n9_; have BK375 := n10_; have HB := n11_; clear n0_ n1_ n2_ n3_ n4_ n5_ n6_ n7_ n8_ n9_ n10_ n11_; (try clear hb); (try clear hb2); (try clear hk); (try clear hi); (try clear ho0)))
        (try simp only [Act.put, List.setIfInBounds_toArray, List.set_cons_zero, List.set_cons_succ])
        go_cut [106] (fun v106 wc => ∃ (kq : Nat) (x106_58 : Bool), v106 = .bool x106_58 ∧ Aside0 (portreevelaw03_DiskReads.j1 kq a0_2 l0_3 a0_4 t365 t376 t380 t384 t394 x106_58 t368 t371 = some r) ∧ Aside0 (kq ≤ kj2) ∧ Aside0 (Kd.R (Kd.int .u8) 5 wc w.heap.size (fun k_ => some k_ ≠ (v381 : Value).ownBlock ∧ some k_ ≠ (v385 : Value).ownBlock ∧ some k_ ≠ (v395 : Value).ownBlock) v377 t376) ∧ Aside0 (Kd.R (Kd.int .u8) 5 wc w.heap.size (fun k_ => some k_ ≠ (v377 : Value).ownBlock ∧ some k_ ≠ (v385 : Value).ownBlock ∧ some k_ ≠ (v395 : Value).ownBlock) v381 t380) ∧ Aside0 (Kd.R (Kd.int .u8) 5 wc w.heap.size (fun k_ => some k_ ≠ (v377 : Value).ownBlock ∧ some k_ ≠ (v381 : Value).ownBlock ∧ some k_ ≠ (v395 : Value).ownBlock) v385 t384) ∧ Aside0 (Kd.R (Kd.int .u8) 5 wc w.heap.size (fun k_ => some k_ ≠ (v377 : Value).ownBlock ∧ some k_ ≠ (v381 : Value).ownBlock ∧ some k_ ≠ (v385 : Value).ownBlock) v395 t394) ∧ Aside0 (Kd.V (Kd.slice 5 (Kd.int .u8)) 26 wc w.heap.size (fun k_ => some k_ ≠ (v377 : Value).ownBlock ∧ some k_ ≠ (v381 : Value).ownBlock ∧ some k_ ≠ (v385 : Value).ownBlock ∧ some k_ ≠ (v395 : Value).ownBlock ∧ k_ ≠ gb363 ∧ k_ ≠ gb364 ∧ k_ ≠ gb375) (.slice Ao64 t368.length co64) t368) ∧ Aside0 (Kd.V k47 47 wc w.heap.size (fun k_ => some k_ ≠ (v377 : Value).ownBlock ∧ some k_ ≠ (v381 : Value).ownBlock ∧ some k_ ≠ (v385 : Value).ownBlock ∧ some k_ ≠ (v395 : Value).ownBlock ∧ k_ ≠ gb363 ∧ k_ ≠ gb364 ∧ k_ ≠ gb375) (.slice Ao68 t371.length co68) t371) ∧ Aside0 (wc.heap[gb363]? = some (.cells #[(.slice A0_0 l0_0.length c0_0), (.slice A0_1 l0_1.length c0_1), .int .i64 a0_2, (.slice A0_3 l0_3.length c0_3), .int .i64 a0_4] 50 (0, 0))) ∧ Aside0 (wc.heap[gb364]? = some (.cells #[(.slice A0_0 l0_0.length c0_0), (.slice A0_1 l0_1.length c0_1)] 25 (0, 0))) ∧ Aside0 (wc.heap[gb375]? = some (.cells #[(.slice Ao64 t368.length co64), (.slice Ao68 t371.length co68)] 25 (0, 0))) ∧ Aside0 (Below w.heap.size w wc))
        case first =>
          have H := HC59.out
          clear HC59
          by_cases c81 : t374 = 0
          · rw [if_pos c81] at H
            have c81b0 : (t374 == 0) = true := beq_iff_eq.mpr c81
            have c81b1 : (t374 != 0) = false := bne_eq_false_iff_eq.mpr c81
            clear c81
            (first | rw [c81b0] | (simp only [i64_w, i32_w]; rw [c81b0]) | skip)
            by_cases c82 : t379 = 0
            · rw [if_pos c82] at H
              have c82b0 : (t379 == 0) = true := beq_iff_eq.mpr c82
              have c82b1 : (t379 != 0) = false := bne_eq_false_iff_eq.mpr c82
              clear c82
              by_cases c83 : t383 = 0
              · rw [if_pos c83] at H
                have c83b0 : (t383 == 0) = true := beq_iff_eq.mpr c83
                have c83b1 : (t383 != 0) = false := bne_eq_false_iff_eq.mpr c83
                clear c83
                by_cases c84 : t387 = 0
                · rw [if_pos c84] at H
                  have c84b0 : (t387 == 0) = true := beq_iff_eq.mpr c84
                  have c84b1 : (t387 != 0) = false := bne_eq_false_iff_eq.mpr c84
                  clear c84
                  have H' := Aside0.mk H
                  clear H
                  go_wp2
                  go_meet
                  case rel => exact ⟨_, ((t397 != 0)), (by first | rfl | (simp; done) | (simp [*]; done)), H', ⟨by have := HJ2.out; first | omega | exact Nat.le_refl _⟩, ⟨by (with_reducible repeat (first | apply Kd.R_alloc | apply Kd.R_drewN | apply Kd.R_drew)); exact Kd.R_mono HO378.out (fun _ hk => ⟨hk.1.1.2, ⟨hk.1.2, hk.2⟩⟩)⟩, ⟨by (with_reducible repeat (first | apply Kd.R_alloc | apply Kd.R_drewN | apply Kd.R_drew)); exact Kd.R_mono HO382.out (fun _ hk => ⟨hk.1.1.2, ⟨hk.1.2, hk.2⟩⟩)⟩, ⟨by (with_reducible repeat (first | apply Kd.R_alloc | apply Kd.R_drewN | apply Kd.R_drew)); exact Kd.R_mono HO386.out (fun _ hk => ⟨hk.1.1.2, ⟨hk.1.2, hk.2⟩⟩)⟩, ⟨by (with_reducible repeat (first | apply Kd.R_alloc | apply Kd.R_drewN | apply Kd.R_drew)); exact Kd.R_mono HO396.out (fun _ hk => ⟨hk.1.1.2, ⟨hk.1.2, hk.2⟩⟩)⟩, ⟨by (with_reducible repeat (first | apply Kd.V_alloc | apply Kd.V_drewN | apply Kd.V_drew)); exact Kd.V_mono HO370.out (fun _ hk => ⟨hk.1.1.1.1.1.2, ⟨hk.1.1.1.1.2, ⟨hk.1.1.1.2, ⟨hk.2, ⟨hk.1.1.1.1.1.1.1, ⟨hk.1.1.1.1.1.1.2.1, hk.1.1.1.1.1.1.2.2⟩⟩⟩⟩⟩⟩)⟩, ⟨by (with_reducible repeat (first | apply Kd.V_alloc | apply Kd.V_drewN | apply Kd.V_drew)); exact Kd.V_mono HO373.out (fun _ hk => ⟨hk.1.1.1.1.1.2, ⟨hk.1.1.1.1.2, ⟨hk.1.1.1.2, ⟨hk.2, ⟨hk.1.1.1.1.1.1.1, ⟨hk.1.1.1.1.1.1.2.1, hk.1.1.1.1.1.1.2.2⟩⟩⟩⟩⟩⟩)⟩, ⟨by (with_reducible repeat (first | refine qN ?_ _ | refine qD ?_ | refine qA ?_ _)); exact BK363.out⟩, ⟨by (with_reducible repeat (first | refine qN ?_ _ | refine qD ?_ | refine qA ?_ _)); exact BK364.out⟩, ⟨by (with_reducible repeat (first | refine qN ?_ _ | refine qD ?_ | refine qA ?_ _)); exact BK375.out⟩, ⟨by repeat (first | (with_reducible first | exact HB.out | apply pA | apply pN | apply pD | refine pS ?_ GE363.out | refine pS ?_ GE364.out | refine pS ?_ GE375.out) | exact HB.out)⟩⟩
                · rw [if_neg c84] at H
                  have c84b0 : (t387 == 0) = false := beq_eq_false_iff_ne.mpr c84
                  have c84b1 : (t387 != 0) = true := bne_iff_ne.mpr c84
                  have H' := Aside0.mk H
                  clear H
                  go_wp2
                  go_meet
                  case rel => exact ⟨_, (true), (by first | rfl | (simp; done) | (simp [*]; done)), H', ⟨by have := HJ2.out; first | omega | exact Nat.le_refl _⟩, ⟨by (with_reducible repeat (first | apply Kd.R_alloc | apply Kd.R_drewN | apply Kd.R_drew)); exact Kd.R_mono HO378.out (fun _ hk => ⟨hk.1.1.2, ⟨hk.1.2, hk.2⟩⟩)⟩, ⟨by (with_reducible repeat (first | apply Kd.R_alloc | apply Kd.R_drewN | apply Kd.R_drew)); exact Kd.R_mono HO382.out (fun _ hk => ⟨hk.1.1.2, ⟨hk.1.2, hk.2⟩⟩)⟩, ⟨by (with_reducible repeat (first | apply Kd.R_alloc | apply Kd.R_drewN | apply Kd.R_drew)); exact Kd.R_mono HO386.out (fun _ hk => ⟨hk.1.1.2, ⟨hk.1.2, hk.2⟩⟩)⟩, ⟨by (with_reducible repeat (first | apply Kd.R_alloc | apply Kd.R_drewN | apply Kd.R_drew)); exact Kd.R_mono HO396.out (fun _ hk => ⟨hk.1.1.2, ⟨hk.1.2, hk.2⟩⟩)⟩, ⟨by (with_reducible repeat (first | apply Kd.V_alloc | apply Kd.V_drewN | apply Kd.V_drew)); exact Kd.V_mono HO370.out (fun _ hk => ⟨hk.1.1.1.1.1.2, ⟨hk.1.1.1.1.2, ⟨hk.1.1.1.2, ⟨hk.2, ⟨hk.1.1.1.1.1.1.1, ⟨hk.1.1.1.1.1.1.2.1, hk.1.1.1.1.1.1.2.2⟩⟩⟩⟩⟩⟩)⟩, ⟨by (with_reducible repeat (first | apply Kd.V_alloc | apply Kd.V_drewN | apply Kd.V_drew)); exact Kd.V_mono HO373.out (fun _ hk => ⟨hk.1.1.1.1.1.2, ⟨hk.1.1.1.1.2, ⟨hk.1.1.1.2, ⟨hk.2, ⟨hk.1.1.1.1.1.1.1, ⟨hk.1.1.1.1.1.1.2.1, hk.1.1.1.1.1.1.2.2⟩⟩⟩⟩⟩⟩)⟩, ⟨by (with_reducible repeat (first | refine qN ?_ _ | refine qD ?_ | refine qA ?_ _)); exact BK363.out⟩, ⟨by (with_reducible repeat (first | refine qN ?_ _ | refine qD ?_ | refine qA ?_ _)); exact BK364.out⟩, ⟨by (with_reducible repeat (first | refine qN ?_ _ | refine qD ?_ | refine qA ?_ _)); exact BK375.out⟩, ⟨by repeat (first | (with_reducible first | exact HB.out | apply pA | apply pN | apply pD | refine pS ?_ GE363.out | refine pS ?_ GE364.out | refine pS ?_ GE375.out) | exact HB.out)⟩⟩
              · rw [if_neg c83] at H
                have c83b0 : (t383 == 0) = false := beq_eq_false_iff_ne.mpr c83
                have c83b1 : (t383 != 0) = true := bne_iff_ne.mpr c83
                have H' := Aside0.mk H
                clear H
                go_wp2
                go_meet
                case rel => exact ⟨_, (true), (by first | rfl | (simp; done) | (simp [*]; done)), H', ⟨by have := HJ2.out; first | omega | exact Nat.le_refl _⟩, ⟨by (with_reducible repeat (first | apply Kd.R_alloc | apply Kd.R_drewN | apply Kd.R_drew)); exact Kd.R_mono HO378.out (fun _ hk => ⟨hk.1.1.2, ⟨hk.1.2, hk.2⟩⟩)⟩, ⟨by (with_reducible repeat (first | apply Kd.R_alloc | apply Kd.R_drewN | apply Kd.R_drew)); exact Kd.R_mono HO382.out (fun _ hk => ⟨hk.1.1.2, ⟨hk.1.2, hk.2⟩⟩)⟩, ⟨by (with_reducible repeat (first | apply Kd.R_alloc | apply Kd.R_drewN | apply Kd.R_drew)); exact Kd.R_mono HO386.out (fun _ hk => ⟨hk.1.1.2, ⟨hk.1.2, hk.2⟩⟩)⟩, ⟨by (with_reducible repeat (first | apply Kd.R_alloc | apply Kd.R_drewN | apply Kd.R_drew)); exact Kd.R_mono HO396.out (fun _ hk => ⟨hk.1.1.2, ⟨hk.1.2, hk.2⟩⟩)⟩, ⟨by (with_reducible repeat (first | apply Kd.V_alloc | apply Kd.V_drewN | apply Kd.V_drew)); exact Kd.V_mono HO370.out (fun _ hk => ⟨hk.1.1.1.1.1.2, ⟨hk.1.1.1.1.2, ⟨hk.1.1.1.2, ⟨hk.2, ⟨hk.1.1.1.1.1.1.1, ⟨hk.1.1.1.1.1.1.2.1, hk.1.1.1.1.1.1.2.2⟩⟩⟩⟩⟩⟩)⟩, ⟨by (with_reducible repeat (first | apply Kd.V_alloc | apply Kd.V_drewN | apply Kd.V_drew)); exact Kd.V_mono HO373.out (fun _ hk => ⟨hk.1.1.1.1.1.2, ⟨hk.1.1.1.1.2, ⟨hk.1.1.1.2, ⟨hk.2, ⟨hk.1.1.1.1.1.1.1, ⟨hk.1.1.1.1.1.1.2.1, hk.1.1.1.1.1.1.2.2⟩⟩⟩⟩⟩⟩)⟩, ⟨by (with_reducible repeat (first | refine qN ?_ _ | refine qD ?_ | refine qA ?_ _)); exact BK363.out⟩, ⟨by (with_reducible repeat (first | refine qN ?_ _ | refine qD ?_ | refine qA ?_ _)); exact BK364.out⟩, ⟨by (with_reducible repeat (first | refine qN ?_ _ | refine qD ?_ | refine qA ?_ _)); exact BK375.out⟩, ⟨by repeat (first | (with_reducible first | exact HB.out | apply pA | apply pN | apply pD | refine pS ?_ GE363.out | refine pS ?_ GE364.out | refine pS ?_ GE375.out) | exact HB.out)⟩⟩
            · rw [if_neg c82] at H
              have c82b0 : (t379 == 0) = false := beq_eq_false_iff_ne.mpr c82
              have c82b1 : (t379 != 0) = true := bne_iff_ne.mpr c82
              have H' := Aside0.mk H
              clear H
              go_wp2
              go_meet
              case rel => exact ⟨_, (true), (by first | rfl | (simp; done) | (simp [*]; done)), H', ⟨by have := HJ2.out; first | omega | exact Nat.le_refl _⟩, ⟨by (with_reducible repeat (first | apply Kd.R_alloc | apply Kd.R_drewN | apply Kd.R_drew)); exact Kd.R_mono HO378.out (fun _ hk => ⟨hk.1.1.2, ⟨hk.1.2, hk.2⟩⟩)⟩, ⟨by (with_reducible repeat (first | apply Kd.R_alloc | apply Kd.R_drewN | apply Kd.R_drew)); exact Kd.R_mono HO382.out (fun _ hk => ⟨hk.1.1.2, ⟨hk.1.2, hk.2⟩⟩)⟩, ⟨by (with_reducible repeat (first | apply Kd.R_alloc | apply Kd.R_drewN | apply Kd.R_drew)); exact Kd.R_mono HO386.out (fun _ hk => ⟨hk.1.1.2, ⟨hk.1.2, hk.2⟩⟩)⟩, ⟨by (with_reducible repeat (first | apply Kd.R_alloc | apply Kd.R_drewN | apply Kd.R_drew)); exact Kd.R_mono HO396.out (fun _ hk => ⟨hk.1.1.2, ⟨hk.1.2, hk.2⟩⟩)⟩, ⟨by (with_reducible repeat (first | apply Kd.V_alloc | apply Kd.V_drewN | apply Kd.V_drew)); exact Kd.V_mono HO370.out (fun _ hk => ⟨hk.1.1.1.1.1.2, ⟨hk.1.1.1.1.2, ⟨hk.1.1.1.2, ⟨hk.2, ⟨hk.1.1.1.1.1.1.1, ⟨hk.1.1.1.1.1.1.2.1, hk.1.1.1.1.1.1.2.2⟩⟩⟩⟩⟩⟩)⟩, ⟨by (with_reducible repeat (first | apply Kd.V_alloc | apply Kd.V_drewN | apply Kd.V_drew)); exact Kd.V_mono HO373.out (fun _ hk => ⟨hk.1.1.1.1.1.2, ⟨hk.1.1.1.1.2, ⟨hk.1.1.1.2, ⟨hk.2, ⟨hk.1.1.1.1.1.1.1, ⟨hk.1.1.1.1.1.1.2.1, hk.1.1.1.1.1.1.2.2⟩⟩⟩⟩⟩⟩)⟩, ⟨by (with_reducible repeat (first | refine qN ?_ _ | refine qD ?_ | refine qA ?_ _)); exact BK363.out⟩, ⟨by (with_reducible repeat (first | refine qN ?_ _ | refine qD ?_ | refine qA ?_ _)); exact BK364.out⟩, ⟨by (with_reducible repeat (first | refine qN ?_ _ | refine qD ?_ | refine qA ?_ _)); exact BK375.out⟩, ⟨by repeat (first | (with_reducible first | exact HB.out | apply pA | apply pN | apply pD | refine pS ?_ GE363.out | refine pS ?_ GE364.out | refine pS ?_ GE375.out) | exact HB.out)⟩⟩
          · rw [if_neg c81] at H
            have c81b0 : (t374 == 0) = false := beq_eq_false_iff_ne.mpr c81
            have c81b1 : (t374 != 0) = true := bne_iff_ne.mpr c81
            (first | rw [c81b0] | (simp only [i64_w, i32_w]; rw [c81b0]) | skip)
            have H' := Aside0.mk H
            clear H
            go_wp2
            go_meet
            case rel => exact ⟨_, (true), (by first | rfl | (simp; done) | (simp [*]; done)), H', ⟨by have := HJ2.out; first | omega | exact Nat.le_refl _⟩, ⟨by (with_reducible repeat (first | apply Kd.R_alloc | apply Kd.R_drewN | apply Kd.R_drew)); exact Kd.R_mono HO378.out (fun _ hk => ⟨hk.1.1.2, ⟨hk.1.2, hk.2⟩⟩)⟩, ⟨by (with_reducible repeat (first | apply Kd.R_alloc | apply Kd.R_drewN | apply Kd.R_drew)); exact Kd.R_mono HO382.out (fun _ hk => ⟨hk.1.1.2, ⟨hk.1.2, hk.2⟩⟩)⟩, ⟨by (with_reducible repeat (first | apply Kd.R_alloc | apply Kd.R_drewN | apply Kd.R_drew)); exact Kd.R_mono HO386.out (fun _ hk => ⟨hk.1.1.2, ⟨hk.1.2, hk.2⟩⟩)⟩, ⟨by (with_reducible repeat (first | apply Kd.R_alloc | apply Kd.R_drewN | apply Kd.R_drew)); exact Kd.R_mono HO396.out (fun _ hk => ⟨hk.1.1.2, ⟨hk.1.2, hk.2⟩⟩)⟩, ⟨by (with_reducible repeat (first | apply Kd.V_alloc | apply Kd.V_drewN | apply Kd.V_drew)); exact Kd.V_mono HO370.out (fun _ hk => ⟨hk.1.1.1.1.1.2, ⟨hk.1.1.1.1.2, ⟨hk.1.1.1.2, ⟨hk.2, ⟨hk.1.1.1.1.1.1.1, ⟨hk.1.1.1.1.1.1.2.1, hk.1.1.1.1.1.1.2.2⟩⟩⟩⟩⟩⟩)⟩, ⟨by (with_reducible repeat (first | apply Kd.V_alloc | apply Kd.V_drewN | apply Kd.V_drew)); exact Kd.V_mono HO373.out (fun _ hk => ⟨hk.1.1.1.1.1.2, ⟨hk.1.1.1.1.2, ⟨hk.1.1.1.2, ⟨hk.2, ⟨hk.1.1.1.1.1.1.1, ⟨hk.1.1.1.1.1.1.2.1, hk.1.1.1.1.1.1.2.2⟩⟩⟩⟩⟩⟩)⟩, ⟨by (with_reducible repeat (first | refine qN ?_ _ | refine qD ?_ | refine qA ?_ _)); exact BK363.out⟩, ⟨by (with_reducible repeat (first | refine qN ?_ _ | refine qD ?_ | refine qA ?_ _)); exact BK364.out⟩, ⟨by (with_reducible repeat (first | refine qN ?_ _ | refine qD ?_ | refine qA ?_ _)); exact BK375.out⟩, ⟨by repeat (first | (with_reducible first | exact HB.out | apply pA | apply pN | apply pD | refine pS ?_ GE363.out | refine pS ?_ GE364.out | refine pS ?_ GE375.out) | exact HB.out)⟩⟩
        case rest =>
          clear HC59
          try clear c1
          try clear c2
          try clear p2
          try clear c3
          try clear c4
          try clear c5
          try clear c6
          try clear c7
          try clear c8
          try clear c9
          try clear c10
          try clear c12
          try clear c14
          try clear c15
          try clear c15b0
          try clear c16
          try clear c18
          try clear c21
          try clear c21b0
          try clear c22
          try clear c27
          try clear c27b0
          try clear c27b1
          try clear c28
          try clear c28b0
          try clear c29
          try clear c34
          try clear c39
          try clear c44
          try clear c49
          try clear c52
          try clear c60
          try clear c65
          try clear c66
          try clear c81
          try clear c81b0
          try clear c81b1
          try clear c82
          try clear c82b0
          try clear c82b1
          try clear c83
          try clear c83b0
          try clear c83b1
          try clear c84
          try clear c84b0
          try clear c84b1
          try clear hcz17_0
          try clear hcz17_1
          try clear hcz19_0
          try clear hcz19_1
          try clear hcz23_0
          try clear hcz23_1
          try clear hcz25_0
          try clear hcz25_1
          try clear hcz30_0
          try clear hcz30_1
          try clear hcz32_0
          try clear hcz32_1
          try clear hcz35_0
          try clear hcz35_1
          try clear hcz37_0
          try clear hcz37_1
          try clear hcz40_0
          try clear hcz40_1
          try clear hcz42_0
          try clear hcz42_1
          try clear hcz45_0
          try clear hcz45_1
          try clear hcz47_0
          try clear hcz47_1
          try clear hcz50_0
          try clear hcz50_1
          try clear hcz5_0
          try clear hcz5_1
          try clear hcz5_2
          try clear hcz5_3
          try clear hcz5_4
          try clear hcz61_0
          try clear hcz61_1
          try clear hcz67_0
          try clear hcz67_1
          try clear hcz70_0
          try clear hcz70_1
          try clear hcz72_0
          try clear hcz72_1
          try clear hcz74_0
          try clear hcz74_1
          try clear hcz76_0
          try clear hcz76_1
          try clear hcz8_0
          try clear hcz8_1
          try clear hcz9_0
          try clear hcz9_1
          try clear hcz9_2
          try clear hcz9_3
          try clear hcz9_4
          try clear hfz17_0
          try clear hfz17_1
          try clear hfz19_0
          try clear hfz19_1
          try clear hfz23_0
          try clear hfz23_1
          try clear hfz25_0
          try clear hfz25_1
          try clear hfz30_0
          try clear hfz30_1
          try clear hfz32_0
          try clear hfz32_1
          try clear hfz35_0
          try clear hfz35_1
          try clear hfz37_0
          try clear hfz37_1
          try clear hfz40_0
          try clear hfz40_1
          try clear hfz42_0
          try clear hfz42_1
          try clear hfz45_0
          try clear hfz45_1
          try clear hfz47_0
          try clear hfz47_1
          try clear hfz50_0
          try clear hfz50_1
          try clear hfz5_0
          try clear hfz5_1
          try clear hfz5_2
          try clear hfz5_3
          try clear hfz5_4
          try clear hfz61_0
          try clear hfz61_1
          try clear hfz67_0
          try clear hfz67_1
          try clear hfz70_0
          try clear hfz70_1
          try clear hfz72_0
          try clear hfz72_1
          try clear hfz74_0
          try clear hfz74_1
          try clear hfz76_0
          try clear hfz76_1
          try clear hfz8_0
          try clear hfz8_1
          try clear hfz9_0
          try clear hfz9_1
          try clear hfz9_2
          try clear hfz9_3
          try clear hfz9_4
          try clear p2
          obtain ⟨kq, x106_58, rfl, HA, HJ58, HO_10, HO_12, HO_14, HO_16, HO_376000, HO_376001, BK363, BK364, BK375, HB⟩ := hcut
          cases kq with
          | zero => exact absurd HA.out (by simp [portreevelaw03_DiskReads.j1])
          | succ kj58 =>
            have H := HA.out
            clear HA
            simp only [portreevelaw03_DiskReads.j1] at H
            by_cases c85 : x106_58 = true
            · subst c85
              have H1 : (some false) = some r := by rw [if_pos rfl] at H; exact H
              clear H
              have H := H1
              clear H1
              exact absurd ((Option.some.inj H).trans hlaw_.out) (by decide)
            · replace c85 := Bool.eq_false_iff.mpr c85
              subst c85
              have H1 : (if t365 = true then ((portreeveref01_Row.f kj58 t376 l0_3).bind fun t398 => (if t398 = true then (if a0_4 = a0_2 then ((portreeveref01_Row.f kj58 t380 t394).bind fun t399 => (if t399 = true then ((portreeveref03_Right.f kj58 t368 t371).bind fun t400 => (some t400)) else (some false))) else ((portreeveref01_Row.f kj58 t380 t384).bind fun t401 => (if t401 = true then ((portreeveref01_Row.f kj58 t380 t394).bind fun t402 => (if t402 = true then ((portreeveref03_Right.f kj58 t368 t371).bind fun t403 => (some t403)) else (some false))) else (some false)))) else (some false))) else (some false)) = some r := by rw [if_neg (show ¬ (false = true) by decide)] at H; exact H
              clear H
              have H := H1
              clear H1
              by_cases c86 : t365 = true
              · subst c86
                have H1 : ((portreeveref01_Row.f kj58 t376 l0_3).bind fun t398 => (if t398 = true then (if a0_4 = a0_2 then ((portreeveref01_Row.f kj58 t380 t394).bind fun t399 => (if t399 = true then ((portreeveref03_Right.f kj58 t368 t371).bind fun t400 => (some t400)) else (some false))) else ((portreeveref01_Row.f kj58 t380 t384).bind fun t401 => (if t401 = true then ((portreeveref01_Row.f kj58 t380 t394).bind fun t402 => (if t402 = true then ((portreeveref03_Right.f kj58 t368 t371).bind fun t403 => (some t403)) else (some false))) else (some false)))) else (some false))) = some r := by rw [if_pos rfl] at H; exact H
                clear H
                have H := H1
                clear H1
                replace H := Option.bind_eq_some_iff.mp H
                obtain ⟨t398, A870, H⟩ := H
                replace H : (if t398 = true then (if a0_4 = a0_2 then ((portreeveref01_Row.f kj58 t380 t394).bind fun t399 => (if t399 = true then ((portreeveref03_Right.f kj58 t368 t371).bind fun t400 => (some t400)) else (some false))) else ((portreeveref01_Row.f kj58 t380 t384).bind fun t401 => (if t401 = true then ((portreeveref01_Row.f kj58 t380 t394).bind fun t402 => (if t402 = true then ((portreeveref03_Right.f kj58 t368 t371).bind fun t403 => (some t403)) else (some false))) else (some false)))) else (some false)) = some r := H
                have A87 := Aside0.mk A870
                clear A870
                by_cases c88 : t398 = true
                · subst c88
                  have H1 : (if a0_4 = a0_2 then ((portreeveref01_Row.f kj58 t380 t394).bind fun t399 => (if t399 = true then ((portreeveref03_Right.f kj58 t368 t371).bind fun t400 => (some t400)) else (some false))) else ((portreeveref01_Row.f kj58 t380 t384).bind fun t401 => (if t401 = true then ((portreeveref01_Row.f kj58 t380 t394).bind fun t402 => (if t402 = true then ((portreeveref03_Right.f kj58 t368 t371).bind fun t403 => (some t403)) else (some false))) else (some false)))) = some r := by rw [if_pos rfl] at H; exact H
                  clear H
                  have H := H1
                  clear H1
                  by_cases c89 : a0_4 = a0_2
                  · rw [if_pos c89] at H
                    have c89b0 : (a0_4 == a0_2) = true := beq_iff_eq.mpr c89
                    have c89b1 : (a0_4 != a0_2) = false := bne_eq_false_iff_eq.mpr c89
                    clear c89
                    replace H := Option.bind_eq_some_iff.mp H
                    obtain ⟨t399, A900, H⟩ := H
                    replace H : (if t399 = true then ((portreeveref03_Right.f kj58 t368 t371).bind fun t400 => (some t400)) else (some false)) = some r := H
                    have A90 := Aside0.mk A900
                    clear A900
                    by_cases c91 : t399 = true
                    · subst c91
                      have H1 : ((portreeveref03_Right.f kj58 t368 t371).bind fun t400 => (some t400)) = some r := by rw [if_pos rfl] at H; exact H
                      clear H
                      have H := H1
                      clear H1
                      replace H := Option.bind_eq_some_iff.mp H
                      obtain ⟨t400, A920, H⟩ := H
                      replace H : (some t400) = some r := H
                      have A92 := Aside0.mk A920
                      clear A920
                      clear hlaw_
                      obtain rfl := Option.some.inj H
                      obtain ⟨Ao93, co93, eo93⟩ := Kd.R_slice HO_10.out
                      subst eo93
                      go_wp2_with (first | (go_at_call 17; (with_reducible refine (portreeveref01_Row.calls kj58 _ _ t376 _ _ l0_3 true _ ?side1 ?side2 ?side3 ?side4 A87.out).mono ?_); (case side1 => repeat (first | exact (Kd.R_reads' HO_10.out).2.2 | (with_reducible refine Kd.C_alloc ?_ _) | (with_reducible refine Kd.C_drewN ?_ _) | (with_reducible refine Kd.C_drew ?_))); (case side2 => exact (Kd.R_reads' HO_10.out).2.1); (case side3 => repeat (first | exact (Kd.C_below HR0_3.out HB.out) | (with_reducible refine Kd.C_alloc ?_ _) | (with_reducible refine Kd.C_drewN ?_ _) | (with_reducible refine Kd.C_drew ?_))); (case side4 => exact HC0_3.out); rintro e w' ⟨rfl, ⟨nd, rfl⟩⟩; obtain ⟨Ao94, co94, eo94⟩ := Kd.R_slice HO_12.out; subst eo94; obtain ⟨Ao95, co95, eo95⟩ := Kd.R_slice HO_16.out; subst eo95) | (go_at_call 17; (with_reducible refine (portreeveref01_Row.calls kj58 _ _ t380 _ _ t394 true _ ?side1 ?side2 ?side3 ?side4 A90.out).mono ?_); (case side1 => repeat (first | exact (Kd.R_reads' HO_12.out).2.2 | (with_reducible refine Kd.C_alloc ?_ _) | (with_reducible refine Kd.C_drewN ?_ _) | (with_reducible refine Kd.C_drew ?_))); (case side2 => exact (Kd.R_reads' HO_12.out).2.1); (case side3 => repeat (first | exact (Kd.R_reads' HO_16.out).2.2 | (with_reducible refine Kd.C_alloc ?_ _) | (with_reducible refine Kd.C_drewN ?_ _) | (with_reducible refine Kd.C_drew ?_))); (case side4 => exact (Kd.R_reads' HO_16.out).2.1); rintro e w' ⟨rfl, ⟨nd, rfl⟩⟩; have hnb96 := NB375_363.out; have hnc96 := NB363_375.out; have hnb97 := NB375_364.out; have hnc97 := NB364_375.out; have hcz98_0 : wc.cell? ⟨gb375, 0, none⟩ = some (.slice Ao64 t368.length co64) := (blk_cell BK375.out 0).trans rfl; have hcz98_1 : wc.cell? ⟨gb375, 1, none⟩ = some (.slice Ao68 t371.length co68) := (blk_cell BK375.out 1).trans rfl; have hfz98_0 := blk_frozen BK375.out 0; have hfz98_1 := blk_frozen BK375.out 1) | (go_at_call 11; (with_reducible refine (portreeveref03_Right.calls kj58 _ _ t368 _ _ t371 t400 _ ?side1 ?side2 ?side3 ?side4 A92.out).mono ?_); (case side1 => repeat (first | exact (Kd.V_reads' HO_376000.out).2.2 | (with_reducible refine Kd.C_alloc ?_ _) | (with_reducible refine Kd.C_drewN ?_ _) | (with_reducible refine Kd.C_drew ?_))); (case side2 => exact (Kd.V_reads' HO_376000.out).2.1); (case side3 => repeat (first | exact (Kd.V_reads' HO_376001.out).2.2 | (with_reducible refine Kd.C_alloc ?_ _) | (with_reducible refine Kd.C_drewN ?_ _) | (with_reducible refine Kd.C_drew ?_))); (case side4 => exact (Kd.V_reads' HO_376001.out).2.1); rintro e w99 ⟨rfl, hb⟩; have n0_ := Aside0.mk (Kd.R_below (by (with_reducible repeat (first | apply Kd.R_alloc | apply Kd.R_drewN | apply Kd.R_drew)); exact HO_10.out) hb); have n1_ := Aside0.mk (Kd.R_below (by (with_reducible repeat (first | apply Kd.R_alloc | apply Kd.R_drewN | apply Kd.R_drew)); exact HO_12.out) hb); have n2_ := Aside0.mk (Kd.R_below (by (with_reducible repeat (first | apply Kd.R_alloc | apply Kd.R_drewN | apply Kd.R_drew)); exact HO_14.out) hb); have n3_ := Aside0.mk (Kd.R_below (by (with_reducible repeat (first | apply Kd.R_alloc | apply Kd.R_drewN | apply Kd.R_drew)); exact HO_16.out) hb); have n4_ := Aside0.mk (Kd.V_below (by (with_reducible repeat (first | apply Kd.V_alloc | apply Kd.V_drewN | apply Kd.V_drew)); exact HO_376000.out) hb); have n5_ := Aside0.mk (Kd.V_below (by (with_reducible repeat (first | apply Kd.V_alloc | apply Kd.V_drewN | apply Kd.V_drew)); exact HO_376001.out) hb); have n6_ := Aside0.mk (blk_below (g := gb363) (o := .cells #[.slice A0_0 l0_0.length c0_0, .slice A0_1 l0_1.length c0_1, .int .i64 a0_2, .slice A0_3 l0_3.length c0_3, .int .i64 a0_4] 50 (0, 0)) (by (with_reducible repeat (first | refine qN ?_ _ | refine qD ?_ | refine qA ?_ _)); exact BK363.out) hb); have n7_ := Aside0.mk (blk_below (g := gb364) (o := .cells #[.slice A0_0 l0_0.length c0_0, .slice A0_1 l0_1.length c0_1] 25 (0, 0)) (by (with_reducible repeat (first | refine qN ?_ _ | refine qD ?_ | refine qA ?_ _)); exact BK364.out) hb); have n8_ := Aside0.mk (blk_below (g := gb375) (o := .cells #[.slice Ao64 t368.length co64, .slice Ao68 t371.length co68] 25 (0, 0)) (by (with_reducible repeat (first | refine qN ?_ _ | refine qD ?_ | refine qA ?_ _)); exact BK375.out) hb); have n9_ := Aside0.mk (below_step (by repeat (first | (with_reducible first | exact HB.out | apply pA | apply pN | apply pD | refine pS ?_ GE363.out | refine pS ?_ GE364.out | refine pS ?_ GE375.out) | exact HB.out)) hb); clear HO_10; clear HO_12; clear HO_14; clear HO_16; clear HO_376000; clear HO_376001; clear BK363; clear BK364; clear BK375; clear HB; have HO_10 := n0_; have HO_12 := n1_; have HO_14 := n2_; have HO_16 := n3_; have HO_376000 := n4_; have HO_376001 := n5_; have BK363 := n6_; have BK364 := n7_; have BK375 := n8_; have HB := n9_; clear n0_ n1_ n2_ n3_ n4_ n5_ n6_ n7_ n8_ n9_; (try clear hb); (try clear hb2); (try clear hk); (try clear hi)))
                      go_ret
                      exact ⟨by first | rfl | (simp [errW_none, errW_some] <;> rfl) | (simp [*, errW_none, errW_some] <;> rfl), by repeat (first | (with_reducible first | exact HB.out | apply pA | apply pN | apply pD | refine pS ?_ GE363.out | refine pS ?_ GE364.out | refine pS ?_ GE375.out) | exact HB.out)⟩
                    · replace c91 := Bool.eq_false_iff.mpr c91
                      subst c91
                      have H1 : (some false) = some r := by rw [if_neg (show ¬ (false = true) by decide)] at H; exact H
                      clear H
                      have H := H1
                      clear H1
                      exact absurd ((Option.some.inj H).trans hlaw_.out) (by decide)
                  · rw [if_neg c89] at H
                    have c89b0 : (a0_4 == a0_2) = false := beq_eq_false_iff_ne.mpr c89
                    have c89b1 : (a0_4 != a0_2) = true := bne_iff_ne.mpr c89
                    replace H := Option.bind_eq_some_iff.mp H
                    obtain ⟨t401, A1000, H⟩ := H
                    replace H : (if t401 = true then ((portreeveref01_Row.f kj58 t380 t394).bind fun t402 => (if t402 = true then ((portreeveref03_Right.f kj58 t368 t371).bind fun t403 => (some t403)) else (some false))) else (some false)) = some r := H
                    have A100 := Aside0.mk A1000
                    clear A1000
                    by_cases c101 : t401 = true
                    · subst c101
                      have H1 : ((portreeveref01_Row.f kj58 t380 t394).bind fun t402 => (if t402 = true then ((portreeveref03_Right.f kj58 t368 t371).bind fun t403 => (some t403)) else (some false))) = some r := by rw [if_pos rfl] at H; exact H
                      clear H
                      have H := H1
                      clear H1
                      replace H := Option.bind_eq_some_iff.mp H
                      obtain ⟨t402, A1020, H⟩ := H
                      replace H : (if t402 = true then ((portreeveref03_Right.f kj58 t368 t371).bind fun t403 => (some t403)) else (some false)) = some r := H
                      have A102 := Aside0.mk A1020
                      clear A1020
                      by_cases c103 : t402 = true
                      · subst c103
                        have H1 : ((portreeveref03_Right.f kj58 t368 t371).bind fun t403 => (some t403)) = some r := by rw [if_pos rfl] at H; exact H
                        clear H
                        have H := H1
                        clear H1
                        replace H := Option.bind_eq_some_iff.mp H
                        obtain ⟨t403, A1040, H⟩ := H
                        replace H : (some t403) = some r := H
                        have A104 := Aside0.mk A1040
                        clear A1040
                        clear hlaw_
                        obtain rfl := Option.some.inj H
                        obtain ⟨Ao105, co105, eo105⟩ := Kd.R_slice HO_10.out
                        subst eo105
                        go_wp2_with (first | (go_at_call 17; (with_reducible refine (portreeveref01_Row.calls kj58 _ _ t376 _ _ l0_3 true _ ?side1 ?side2 ?side3 ?side4 A87.out).mono ?_); (case side1 => repeat (first | exact (Kd.R_reads' HO_10.out).2.2 | (with_reducible refine Kd.C_alloc ?_ _) | (with_reducible refine Kd.C_drewN ?_ _) | (with_reducible refine Kd.C_drew ?_))); (case side2 => exact (Kd.R_reads' HO_10.out).2.1); (case side3 => repeat (first | exact (Kd.C_below HR0_3.out HB.out) | (with_reducible refine Kd.C_alloc ?_ _) | (with_reducible refine Kd.C_drewN ?_ _) | (with_reducible refine Kd.C_drew ?_))); (case side4 => exact HC0_3.out); rintro e w' ⟨rfl, ⟨nd, rfl⟩⟩; obtain ⟨Ao106, co106, eo106⟩ := Kd.R_slice HO_12.out; subst eo106; obtain ⟨Ao107, co107, eo107⟩ := Kd.R_slice HO_14.out; subst eo107) | (go_at_call 17; (with_reducible refine (portreeveref01_Row.calls kj58 _ _ t380 _ _ t384 true _ ?side1 ?side2 ?side3 ?side4 A100.out).mono ?_); (case side1 => repeat (first | exact (Kd.R_reads' HO_12.out).2.2 | (with_reducible refine Kd.C_alloc ?_ _) | (with_reducible refine Kd.C_drewN ?_ _) | (with_reducible refine Kd.C_drew ?_))); (case side2 => exact (Kd.R_reads' HO_12.out).2.1); (case side3 => repeat (first | exact (Kd.R_reads' HO_14.out).2.2 | (with_reducible refine Kd.C_alloc ?_ _) | (with_reducible refine Kd.C_drewN ?_ _) | (with_reducible refine Kd.C_drew ?_))); (case side4 => exact (Kd.R_reads' HO_14.out).2.1); rintro e w' ⟨rfl, ⟨nd, rfl⟩⟩; obtain ⟨Ao108, co108, eo108⟩ := Kd.R_slice HO_16.out; subst eo108) | (go_at_call 17; (with_reducible refine (portreeveref01_Row.calls kj58 _ _ t380 _ _ t394 true _ ?side1 ?side2 ?side3 ?side4 A102.out).mono ?_); (case side1 => repeat (first | exact (Kd.R_reads' HO_12.out).2.2 | (with_reducible refine Kd.C_alloc ?_ _) | (with_reducible refine Kd.C_drewN ?_ _) | (with_reducible refine Kd.C_drew ?_))); (case side2 => exact (Kd.R_reads' HO_12.out).2.1); (case side3 => repeat (first | exact (Kd.R_reads' HO_16.out).2.2 | (with_reducible refine Kd.C_alloc ?_ _) | (with_reducible refine Kd.C_drewN ?_ _) | (with_reducible refine Kd.C_drew ?_))); (case side4 => exact (Kd.R_reads' HO_16.out).2.1); rintro e w' ⟨rfl, ⟨nd, rfl⟩⟩; have hnb109 := NB375_363.out; have hnc109 := NB363_375.out; have hnb110 := NB375_364.out; have hnc110 := NB364_375.out; have hcz111_0 : wc.cell? ⟨gb375, 0, none⟩ = some (.slice Ao64 t368.length co64) := (blk_cell BK375.out 0).trans rfl; have hcz111_1 : wc.cell? ⟨gb375, 1, none⟩ = some (.slice Ao68 t371.length co68) := (blk_cell BK375.out 1).trans rfl; have hfz111_0 := blk_frozen BK375.out 0; have hfz111_1 := blk_frozen BK375.out 1) | (go_at_call 11; (with_reducible refine (portreeveref03_Right.calls kj58 _ _ t368 _ _ t371 t403 _ ?side1 ?side2 ?side3 ?side4 A104.out).mono ?_); (case side1 => repeat (first | exact (Kd.V_reads' HO_376000.out).2.2 | (with_reducible refine Kd.C_alloc ?_ _) | (with_reducible refine Kd.C_drewN ?_ _) | (with_reducible refine Kd.C_drew ?_))); (case side2 => exact (Kd.V_reads' HO_376000.out).2.1); (case side3 => repeat (first | exact (Kd.V_reads' HO_376001.out).2.2 | (with_reducible refine Kd.C_alloc ?_ _) | (with_reducible refine Kd.C_drewN ?_ _) | (with_reducible refine Kd.C_drew ?_))); (case side4 => exact (Kd.V_reads' HO_376001.out).2.1); rintro e w112 ⟨rfl, hb⟩; have n0_ := Aside0.mk (Kd.R_below (by (with_reducible repeat (first | apply Kd.R_alloc | apply Kd.R_drewN | apply Kd.R_drew)); exact HO_10.out) hb); have n1_ := Aside0.mk (Kd.R_below (by (with_reducible repeat (first | apply Kd.R_alloc | apply Kd.R_drewN | apply Kd.R_drew)); exact HO_12.out) hb); have n2_ := Aside0.mk (Kd.R_below (by (with_reducible repeat (first | apply Kd.R_alloc | apply Kd.R_drewN | apply Kd.R_drew)); exact HO_14.out) hb); have n3_ := Aside0.mk (Kd.R_below (by (with_reducible repeat (first | apply Kd.R_alloc | apply Kd.R_drewN | apply Kd.R_drew)); exact HO_16.out) hb); have n4_ := Aside0.mk (Kd.V_below (by (with_reducible repeat (first | apply Kd.V_alloc | apply Kd.V_drewN | apply Kd.V_drew)); exact HO_376000.out) hb); have n5_ := Aside0.mk (Kd.V_below (by (with_reducible repeat (first | apply Kd.V_alloc | apply Kd.V_drewN | apply Kd.V_drew)); exact HO_376001.out) hb); have n6_ := Aside0.mk (blk_below (g := gb363) (o := .cells #[.slice A0_0 l0_0.length c0_0, .slice A0_1 l0_1.length c0_1, .int .i64 a0_2, .slice A0_3 l0_3.length c0_3, .int .i64 a0_4] 50 (0, 0)) (by (with_reducible repeat (first | refine qN ?_ _ | refine qD ?_ | refine qA ?_ _)); exact BK363.out) hb); have n7_ := Aside0.mk (blk_below (g := gb364) (o := .cells #[.slice A0_0 l0_0.length c0_0, .slice A0_1 l0_1.length c0_1] 25 (0, 0)) (by (with_reducible repeat (first | refine qN ?_ _ | refine qD ?_ | refine qA ?_ _)); exact BK364.out) hb); have n8_ := Aside0.mk (blk_below (g := gb375) (o := .cells #[.slice Ao64 t368.length co64, .slice Ao68 t371.length co68] 25 (0, 0)) (by (with_reducible repeat (first | refine qN ?_ _ | refine qD ?_ | refine qA ?_ _)); exact BK375.out) hb); have n9_ := Aside0.mk (below_step (by repeat (first | (with_reducible first | exact HB.out | apply pA | apply pN | apply pD | refine pS ?_ GE363.out | refine pS ?_ GE364.out | refine pS ?_ GE375.out) | exact HB.out)) hb); clear HO_10; clear HO_12; clear HO_14; clear HO_16; clear HO_376000; clear HO_376001; clear BK363; clear BK364; clear BK375; clear HB; have HO_10 := n0_; have HO_12 := n1_; have HO_14 := n2_; have HO_16 := n3_; have HO_376000 := n4_; have HO_376001 := n5_; have BK363 := n6_; have BK364 := n7_; have BK375 := n8_; have HB := n9_; clear n0_ n1_ n2_ n3_ n4_ n5_ n6_ n7_ n8_ n9_; (try clear hb); (try clear hb2); (try clear hk); (try clear hi)))
                        go_ret
                        exact ⟨by first | rfl | (simp [errW_none, errW_some] <;> rfl) | (simp [*, errW_none, errW_some] <;> rfl), by repeat (first | (with_reducible first | exact HB.out | apply pA | apply pN | apply pD | refine pS ?_ GE363.out | refine pS ?_ GE364.out | refine pS ?_ GE375.out) | exact HB.out)⟩
                      · replace c103 := Bool.eq_false_iff.mpr c103
                        subst c103
                        have H1 : (some false) = some r := by rw [if_neg (show ¬ (false = true) by decide)] at H; exact H
                        clear H
                        have H := H1
                        clear H1
                        exact absurd ((Option.some.inj H).trans hlaw_.out) (by decide)
                    · replace c101 := Bool.eq_false_iff.mpr c101
                      subst c101
                      have H1 : (some false) = some r := by rw [if_neg (show ¬ (false = true) by decide)] at H; exact H
                      clear H
                      have H := H1
                      clear H1
                      exact absurd ((Option.some.inj H).trans hlaw_.out) (by decide)
                · replace c88 := Bool.eq_false_iff.mpr c88
                  subst c88
                  have H1 : (some false) = some r := by rw [if_neg (show ¬ (false = true) by decide)] at H; exact H
                  clear H
                  have H := H1
                  clear H1
                  exact absurd ((Option.some.inj H).trans hlaw_.out) (by decide)
              · replace c86 := Bool.eq_false_iff.mpr c86
                subst c86
                have H1 : (some false) = some r := by rw [if_neg (show ¬ (false = true) by decide)] at H; exact H
                clear H
                have H := H1
                clear H1
                exact absurd ((Option.some.inj H).trans hlaw_.out) (by decide)

end Go.Proofs.Ytnhfhepakimncaa.Q

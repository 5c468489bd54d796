-- written by this session's own program (wip/tools/myprint.py), over the kit's print
import Derived.Test.YtnhfhepakimncaaQx0
import Derived.Test.YtnhfhepakimncaaQx6
import Derived.Test.YtnhfhepakimncaaQx7
import Derived.Test.YtnhfhepakimncaaQx9
import Derived.Test.YtnhfhepakimncaaQx10
import Derived.Test.YtnhfhepakimncaaQx12
namespace Go.Proofs.Ytnhfhepakimncaa.Q
open Go.RowKit Go.Proofs.YtnhfhepakimncaaW.PrintWords Go.Proofs.YtnhfhepakimncaaW.PrintLast Go.Proofs.YtnhfhepakimncaaW.PrintMore
open Go.Proofs.YtnhfhepakimncaaV
attribute [local go_sem] max2_int min2_int max_two min_two max_three min_three max_four min_four   -- for this text's walks alone
set_option linter.unusedVariables false
set_option linter.unusedSimpArgs false

/-! ### portreevelaw03_DiskTwice: function 7 -/
def portreevelaw03_DiskTwice.j0 : Nat → List Bool → List Bool → Bool → Bool → List (List Int) → List (S47) → Option (Bool)
  | 0, _, _, _, _, _, _ => none
  | k + 1, x1, x2, x7, x28, x461000, x461001 => if x28 = true then (some x7) else ((disk_Crash.f k x461000 x461001 x1).bind fun bt464 => ((some (([] : List Bool) : List Bool)).bind fun y471 => (if y471.length + x1.length < 140737488355328 then ((some (y471 ++ x1 : List Bool)).bind fun y474 => (if y474.length + 100 < 140737488355328 then (if x7 = true then ((disk_Crash.f k bt464.1 bt464.2 x2).bind fun bt480 => ((portreeveref03_Same.f k bt480.1 bt480.2 bt464.1 bt464.2).bind fun t486 => (if t486 = true then ((disk_Flush.f k bt464.1 bt464.2).bind fun bt487 => ((portreeveref03_Same.f k bt487.1 bt487.2 bt464.1 bt464.2).bind fun t493 => (if t493 = true then ((disk_Crash.f k x461000 x461001 (y474 ++ List.replicate 100 false)).bind fun bt494 => ((portreeveref03_Same.f k bt494.1 bt494.2 bt464.1 bt464.2).bind fun t500 => (if t500 = true then ((disk_Right.f k bt464.1 bt464.2).bind fun t501 => (some t501)) else (some false)))) else (some false)))) else (some false)))) else (some false)) else (none))) else (none))))
def portreevelaw03_DiskTwice.f (k : Nat) (l0_0 : List (List Int)) (l0_1 : List (S47)) (l1 : List Bool) (l2 : List Bool) : Option (Bool) := (portreevelaw03_shown.f k).bind fun t461 => ((portreeveref03_Small.f k l0_0 l0_1).bind fun t462 => (if t462 = true then ((portreeveref03_Right.f k l0_0 l0_1).bind fun t463 => (if t463 = true then (if (l1.length : Int) > 100 then (portreevelaw03_DiskTwice.j0 k l1 l2 t461 true l0_0 l0_1) else (portreevelaw03_DiskTwice.j0 k l1 l2 t461 (decide ((l2.length : Int) > 100)) l0_0 l0_1)) else (portreevelaw03_DiskTwice.j0 k l1 l2 t461 true l0_0 l0_1))) else (portreevelaw03_DiskTwice.j0 k l1 l2 t461 true l0_0 l0_1)))
theorem portreevelaw03_DiskTwice.mono_l : ∀ k, (∀ y0 y1 y2 y3 y4 y5, LeO (portreevelaw03_DiskTwice.j0 k y0 y1 y2 y3 y4 y5) (portreevelaw03_DiskTwice.j0 (k + 1) y0 y1 y2 y3 y4 y5))
  | 0 => fun _ _ _ _ _ _ r h => by simp [portreevelaw03_DiskTwice.j0] at h
  | k + 1 => by
    have ih0 := portreevelaw03_DiskTwice.mono_l k
    · intro y0 y1 y2 y3 y4 y5
      unfold portreevelaw03_DiskTwice.j0
      repeat' first
      | (with_reducible exact ih0 _ _ _ _ _ _)
      | (with_reducible exact disk_Crash.mono _ _ _ _)
      | (with_reducible exact disk_Flush.mono _ _ _)
      | (with_reducible exact disk_Right.mono _ _ _)
      | (with_reducible exact portreevelaw03_shown.mono _)
      | (with_reducible exact portreeveref03_Right.mono _ _ _)
      | (with_reducible exact portreeveref03_Same.mono _ _ _ _ _)
      | (with_reducible exact portreeveref03_Small.mono _ _ _)
      | (with_reducible exact LeO.refl _)
      | (with_reducible exact LeO.none _)
      | (with_reducible refine LeO.ite ?_ ?_)
      | (with_reducible refine LeO.bind ?_ (fun _ => ?_))
      | exact ih0 _ _ _ _ _ _
      | exact disk_Crash.mono _ _ _ _
      | exact disk_Flush.mono _ _ _
      | exact disk_Right.mono _ _ _
      | exact portreevelaw03_shown.mono _
      | exact portreeveref03_Right.mono _ _ _
      | exact portreeveref03_Same.mono _ _ _ _ _
      | exact portreeveref03_Small.mono _ _ _
      | exact LeO.none _
      | refine LeO.ite ?_ ?_
      | refine LeO.bind ?_ (fun _ => ?_)
theorem portreevelaw03_DiskTwice.mono : ∀ a0 a1 a2 a3 k, LeO (portreevelaw03_DiskTwice.f k a0 a1 a2 a3) (portreevelaw03_DiskTwice.f (k + 1) a0 a1 a2 a3) := by
  intro a0 a1 a2 a3 k
  have ih0 := portreevelaw03_DiskTwice.mono_l k
  unfold portreevelaw03_DiskTwice.f
  repeat' first
      | (with_reducible exact ih0 _ _ _ _ _ _)
      | (with_reducible exact disk_Crash.mono _ _ _ _)
      | (with_reducible exact disk_Flush.mono _ _ _)
      | (with_reducible exact disk_Right.mono _ _ _)
      | (with_reducible exact portreevelaw03_shown.mono _)
      | (with_reducible exact portreeveref03_Right.mono _ _ _)
      | (with_reducible exact portreeveref03_Same.mono _ _ _ _ _)
      | (with_reducible exact portreeveref03_Small.mono _ _ _)
      | (with_reducible exact LeO.refl _)
      | (with_reducible exact LeO.none _)
      | (with_reducible refine LeO.ite ?_ ?_)
      | (with_reducible refine LeO.bind ?_ (fun _ => ?_))
      | exact ih0 _ _ _ _ _ _
      | exact disk_Crash.mono _ _ _ _
      | exact disk_Flush.mono _ _ _
      | exact disk_Right.mono _ _ _
      | exact portreevelaw03_shown.mono _
      | exact portreeveref03_Right.mono _ _ _
      | exact portreeveref03_Same.mono _ _ _ _ _
      | exact portreeveref03_Small.mono _ _ _
      | exact LeO.none _
      | refine LeO.ite ?_ ?_
      | refine LeO.bind ?_ (fun _ => ?_)
def portreevelaw03_DiskTwice.T6 : Bool × List (List Nat × List Nat) := (true, [([], []), ([0], [0]), ([1], [1]), ([1], [1]), ([2, 3, 1, 1], [1, 2, 3]), ([1], [1]), ([4, 5, 4, 1], [1, 4, 5]), ([1, 6], [1, 6]), ([7, 6], [7]), ([8], [8]), ([9, 8, 8], [8, 9]), ([8], [8]), ([10, 11, 10, 8], [8, 10, 11]), ([8, 12], [8, 12]), ([13, 12], [13]), ([14], [14]), ([14], [14]), ([15, 16, 14, 14], [14, 15, 16]), ([14], [14]), ([17, 18, 17, 14], [14, 17, 18]), ([14, 19], [14, 19]), ([20, 19], [20]), ([21], [21]), ([22, 21, 21], [21, 22]), ([21, 23], [21, 23]), ([24, 23, 0, 1, 2, 3, 4, 5, 6, 7, 8, 9, 10, 11, 12, 13, 14, 15, 16, 17, 18, 19, 20, 21, 22, 23, 24], [24])])
def portreevelaw03_DiskTwice.B6 : List Nat := [0, 1, 3, 3, 15, 3, 63, 127, 255, 511, 1023, 511, 4095, 8191, 16383, 32767, 32767, 131071, 32767, 524287, 1048575, 2097151, 4194303, 8388607, 16777215, 33554431]
theorem portreevelaw03_DiskTwice.tab6 : rtab .any (opsOf Try.f7 6) = portreevelaw03_DiskTwice.T6 := by kernel_rfl
theorem portreevelaw03_DiskTwice.bits6 : waitsOk portreevelaw03_DiskTwice.T6.2 portreevelaw03_DiskTwice.B6 = true := by kernel_rfl
set_option maxHeartbeats 8000000 in
set_option maxRecDepth 100000 in
theorem portreevelaw03_DiskTwice.calls (k : Nat) (A0_0 : Option Addr) (c0_0 : Nat) (l0_0 : List (List Int)) (A0_1 : Option Addr) (c0_1 : Nat) (l0_1 : List (S47)) (A1 : Option Addr) (c1 : Nat) (l1 : List Bool) (A2 : Option Addr) (c2 : Nat) (l2 : List Bool) (r : Bool) (w : World) (hlaw_ : Aside0 (r = true)) (hr0_0 : Kd.C (Kd.slice 5 (Kd.int .u8)) w A0_0 l0_0.length l0_0) (hc0_0 : l0_0.length ≤ c0_0) (hr0_1 : Kd.C k47 w A0_1 l0_1.length l0_1) (hc0_1 : l0_1.length ≤ c0_1) (hr1 : Kd.C Kd.bool w A1 l1.length l1) (hc1 : l1.length ≤ c1) (hr2 : Kd.C Kd.bool w A2 l2.length l2) (hc2 : l2.length ≤ c2) (h : portreevelaw03_DiskTwice.f k l0_0 l0_1 l1 l2 = some r) :
    Calls Try.prog 7 #[.agg #[.slice A0_0 l0_0.length c0_0, .slice A0_1 l0_1.length c0_1], .slice A1 l1.length c1, .slice A2 l2.length c2] w fun e w' => e = .returned (.bool r) ∧ Below w.heap.size w w' := by
  have hu25 := Try.underlying25
  have HR0_0 := Aside0.mk hr0_0
  have HC0_0 := Aside0.mk hc0_0
  clear hr0_0 hc0_0
  have HR0_1 := Aside0.mk hr0_1
  have HC0_1 := Aside0.mk hc0_1
  clear hr0_1 hc0_1
  have HR1 := Aside0.mk hr1
  have HC1 := Aside0.mk hc1
  clear hr1 hc1
  have HR2 := Aside0.mk hr2
  have HC2 := Aside0.mk hc2
  clear hr2 hc2
  have HB := Aside0.mk (Below.refl w.heap.size w)
  have H : ((portreevelaw03_shown.f k).bind fun t461 => ((portreeveref03_Small.f k l0_0 l0_1).bind fun t462 => (if t462 = true then ((portreeveref03_Right.f k l0_0 l0_1).bind fun t463 => (if t463 = true then (if (l1.length : Int) > 100 then (portreevelaw03_DiskTwice.j0 k l1 l2 t461 true l0_0 l0_1) else (portreevelaw03_DiskTwice.j0 k l1 l2 t461 (decide ((l2.length : Int) > 100)) l0_0 l0_1)) else (portreevelaw03_DiskTwice.j0 k l1 l2 t461 true l0_0 l0_1))) else (portreevelaw03_DiskTwice.j0 k l1 l2 t461 true l0_0 l0_1)))) = some r := h
  clear h
  replace H := Option.bind_eq_some_iff.mp H
  obtain ⟨t461, A40, H⟩ := H
  replace H : ((portreeveref03_Small.f k l0_0 l0_1).bind fun t462 => (if t462 = true then ((portreeveref03_Right.f k l0_0 l0_1).bind fun t463 => (if t463 = true then (if (l1.length : Int) > 100 then (portreevelaw03_DiskTwice.j0 k l1 l2 t461 true l0_0 l0_1) else (portreevelaw03_DiskTwice.j0 k l1 l2 t461 (decide ((l2.length : Int) > 100)) l0_0 l0_1)) else (portreevelaw03_DiskTwice.j0 k l1 l2 t461 true l0_0 l0_1))) else (portreevelaw03_DiskTwice.j0 k l1 l2 t461 true l0_0 l0_1))) = some r := H
  have A4 := Aside0.mk A40
  clear A40
  have HC5 := Aside0.mk H
  clear H
  go_enter Try.func7, Try.ntmps7
  go_upto_region 2 with (first | ((with_reducible refine gate_dst (N := 3) rfl ?_); (try (refine gate_guard (by rfl) ?_; dsimp only)); refine box_event ?hg (N := 3) ?hd (cs := #[.slice A0_0 l0_0.length c0_0, .slice A0_1 l0_1.length c0_1]) (t := 25) ?hr ?_; (case hd => rfl); (case hg => rfl); (case hr => first | (go_simp; done) | (go_simp; rfl)); intro gb460 hg w6 hbox hb; have n0_ := Aside0.mk (below_step (by repeat (first | (with_reducible first | exact HB.out | apply pA | apply pN | apply pD) | exact HB.out)) hb); have n1_ := Aside0.mk (hbox); have n2_ := Aside0.mk ((by rw [hg]; exact (below_size (by repeat (first | (with_reducible first | exact HB.out | apply pA | apply pN | apply pD) | exact HB.out))) : w.heap.size ≤ gb460)); have n3_ := Aside0.mk ((by rw [hg]; exact (below_size (by repeat (first | (with_reducible first | exact HB.out | apply pA | apply pN | apply pD) | exact HB.out))) : w.heap.size ≤ gb460)); clear HB; have HB := n0_; have BK460 := n1_; have GW460 := n2_; have GE460 := n3_; clear n0_ n1_ n2_ n3_; clear hb hbox hg) | ((with_reducible refine gate_callee (f := 9) rfl ?_); refine goesL_ (some 10) rfl rfl Try.func9 (by kernel_rfl) rfl #[] rfl (by (try simp only [List.map_toArray, List.map_cons, List.map_nil]); first | done | rfl | (simp only [List.length_drop, List.length_take]; rfl)) ?_; (with_reducible refine (portreevelaw03_shown.calls k  t461 _ A4.out).mono ?_); rintro e w7 ⟨rfl, hb⟩; refine ⟨_, rfl, ?_⟩; have n0_ := Aside0.mk (blk_below (g := gb460) (o := .cells #[.slice A0_0 l0_0.length c0_0, .slice A0_1 l0_1.length c0_1] 25 (0, 0)) (by (with_reducible repeat (first | refine qN ?_ _ | refine qD ?_ | refine qA ?_ _)); exact BK460.out) hb); have n1_ := Aside0.mk (below_step (by repeat (first | (with_reducible first | exact HB.out | apply pA | apply pN | apply pD | refine pS ?_ GE460.out) | exact HB.out)) hb); clear BK460; clear HB; have BK460 := n0_; have HB := n1_; clear n0_ n1_; (try clear hb); (try clear hb2); (try clear hk); (try clear hi)))
  (try simp only [Act.put, List.setIfInBounds_toArray, List.set_cons_zero, List.set_cons_succ])
  go_cut [28] (fun v28 wc => ∃ (kq : Nat) (x28_4 : Bool), v28 = .bool x28_4 ∧ Aside0 (portreevelaw03_DiskTwice.j0 kq l1 l2 t461 x28_4 l0_0 l0_1 = some r) ∧ Aside0 (kq ≤ k) ∧ Aside0 (wc.heap[gb460]? = some (.cells #[(.slice A0_0 l0_0.length c0_0), (.slice A0_1 l0_1.length c0_1)] 25 (0, 0))) ∧ Aside0 (Below w.heap.size w wc))
  case first =>
    have H := HC5.out
    clear HC5
    replace H := Option.bind_eq_some_iff.mp H
    obtain ⟨t462, A80, H⟩ := H
    replace H : (if t462 = true then ((portreeveref03_Right.f k l0_0 l0_1).bind fun t463 => (if t463 = true then (if (l1.length : Int) > 100 then (portreevelaw03_DiskTwice.j0 k l1 l2 t461 true l0_0 l0_1) else (portreevelaw03_DiskTwice.j0 k l1 l2 t461 (decide ((l2.length : Int) > 100)) l0_0 l0_1)) else (portreevelaw03_DiskTwice.j0 k l1 l2 t461 true l0_0 l0_1))) else (portreevelaw03_DiskTwice.j0 k l1 l2 t461 true l0_0 l0_1)) = some r := H
    have A8 := Aside0.mk A80
    clear A80
    by_cases c9 : t462 = true
    · subst c9
      have H1 : ((portreeveref03_Right.f k l0_0 l0_1).bind fun t463 => (if t463 = true then (if (l1.length : Int) > 100 then (portreevelaw03_DiskTwice.j0 k l1 l2 t461 true l0_0 l0_1) else (portreevelaw03_DiskTwice.j0 k l1 l2 t461 (decide ((l2.length : Int) > 100)) l0_0 l0_1)) else (portreevelaw03_DiskTwice.j0 k l1 l2 t461 true l0_0 l0_1))) = some r := by rw [if_pos rfl] at H; exact H
      clear H
      have H := H1
      clear H1
      replace H := Option.bind_eq_some_iff.mp H
      obtain ⟨t463, A100, H⟩ := H
      replace H : (if t463 = true then (if (l1.length : Int) > 100 then (portreevelaw03_DiskTwice.j0 k l1 l2 t461 true l0_0 l0_1) else (portreevelaw03_DiskTwice.j0 k l1 l2 t461 (decide ((l2.length : Int) > 100)) l0_0 l0_1)) else (portreevelaw03_DiskTwice.j0 k l1 l2 t461 true l0_0 l0_1)) = some r := H
      have A10 := Aside0.mk A100
      clear A100
      by_cases c11 : t463 = true
      · subst c11
        have H1 : (if (l1.length : Int) > 100 then (portreevelaw03_DiskTwice.j0 k l1 l2 t461 true l0_0 l0_1) else (portreevelaw03_DiskTwice.j0 k l1 l2 t461 (decide ((l2.length : Int) > 100)) l0_0 l0_1)) = some r := by rw [if_pos rfl] at H; exact H
        clear H
        have H := H1
        clear H1
        by_cases c12 : (l1.length : Int) > 100
        · rw [if_pos c12] at H
          have c12b0 : decide (100 < (l1.length : Int)) = true := decide_eq_true c12
          have c12b1 : decide (100 < l1.length) = true := decide_eq_true (by omega)
          clear c12
          (first | rw [c12b0] | (simp only [i64_w, i32_w]; rw [c12b0]) | skip)
          have H' := Aside0.mk H
          clear H
          have hcz13_0 : w7.cell? ⟨gb460, 0, none⟩ = some (.slice A0_0 l0_0.length c0_0) := (blk_cell BK460.out 0).trans rfl
          have hcz13_1 : w7.cell? ⟨gb460, 1, none⟩ = some (.slice A0_1 l0_1.length c0_1) := (blk_cell BK460.out 1).trans rfl
          have hfz13_0 := blk_frozen BK460.out 0
          have hfz13_1 := blk_frozen BK460.out 1
          go_wp2_with (first | ((with_reducible refine gate_callee (f := 10) rfl ?_); refine goesL_ (some 12) rfl rfl Try.func10 (by kernel_rfl) rfl #[.agg #[.slice A0_0 l0_0.length c0_0, .slice A0_1 l0_1.length c0_1]] rfl (by (try simp only [List.map_toArray, List.map_cons, List.map_nil]); first | done | rfl | (simp only [List.length_drop, List.length_take]; rfl)) ?_; (with_reducible refine (portreeveref03_Small.calls k _ _ l0_0 _ _ l0_1 true _ ?side1 ?side2 ?side3 ?side4 A8.out).mono ?_); (case side1 => repeat (first | exact (Kd.C_below HR0_0.out HB.out) | (with_reducible refine Kd.C_alloc ?_ _) | (with_reducible refine Kd.C_drewN ?_ _) | (with_reducible refine Kd.C_drew ?_))); (case side2 => exact HC0_0.out); (case side3 => repeat (first | exact (Kd.C_below HR0_1.out HB.out) | (with_reducible refine Kd.C_alloc ?_ _) | (with_reducible refine Kd.C_drewN ?_ _) | (with_reducible refine Kd.C_drew ?_))); (case side4 => exact HC0_1.out); rintro e w14 ⟨rfl, hb⟩; refine ⟨_, rfl, ?_⟩; have n0_ := Aside0.mk (blk_below (g := gb460) (o := .cells #[.slice A0_0 l0_0.length c0_0, .slice A0_1 l0_1.length c0_1] 25 (0, 0)) (by (with_reducible repeat (first | refine qN ?_ _ | refine qD ?_ | refine qA ?_ _)); exact BK460.out) hb); have n1_ := Aside0.mk (below_step (by repeat (first | (with_reducible first | exact HB.out | apply pA | apply pN | apply pD | refine pS ?_ GE460.out) | exact HB.out)) hb); clear BK460; clear HB; have BK460 := n0_; have HB := n1_; clear n0_ n1_; (try clear hb); (try clear hb2); (try clear hk); (try clear hi); have hcz15_0 : w14.cell? ⟨gb460, 0, none⟩ = some (.slice A0_0 l0_0.length c0_0) := (blk_cell BK460.out 0).trans rfl; have hcz15_1 : w14.cell? ⟨gb460, 1, none⟩ = some (.slice A0_1 l0_1.length c0_1) := (blk_cell BK460.out 1).trans rfl; have hfz15_0 := blk_frozen BK460.out 0; have hfz15_1 := blk_frozen BK460.out 1) | (go_at_call 11; (with_reducible refine (portreeveref03_Right.calls k _ _ l0_0 _ _ l0_1 true _ ?side1 ?side2 ?side3 ?side4 A10.out).mono ?_); (case side1 => repeat (first | exact (Kd.C_below HR0_0.out HB.out) | (with_reducible refine Kd.C_alloc ?_ _) | (with_reducible refine Kd.C_drewN ?_ _) | (with_reducible refine Kd.C_drew ?_))); (case side2 => exact HC0_0.out); (case side3 => repeat (first | exact (Kd.C_below HR0_1.out HB.out) | (with_reducible refine Kd.C_alloc ?_ _) | (with_reducible refine Kd.C_drewN ?_ _) | (with_reducible refine Kd.C_drew ?_))); (case side4 => exact HC0_1.out); rintro e w16 ⟨rfl, hb⟩; have n0_ := Aside0.mk (blk_below (g := gb460) (o := .cells #[.slice A0_0 l0_0.length c0_0, .slice A0_1 l0_1.length c0_1] 25 (0, 0)) (by (with_reducible repeat (first | refine qN ?_ _ | refine qD ?_ | refine qA ?_ _)); exact BK460.out) hb); have n1_ := Aside0.mk (below_step (by repeat (first | (with_reducible first | exact HB.out | apply pA | apply pN | apply pD | refine pS ?_ GE460.out) | exact HB.out)) hb); clear BK460; clear HB; have BK460 := n0_; have HB := n1_; clear n0_ n1_; (try clear hb); (try clear hb2); (try clear hk); (try clear hi)))
          go_meet
          case rel => exact ⟨_, (true), (by first | rfl | (simp; done) | (simp [*]; done)), H', ⟨by first | omega | exact Nat.le_refl _⟩, ⟨by (with_reducible repeat (first | refine qN ?_ _ | refine qD ?_ | refine qA ?_ _)); exact BK460.out⟩, ⟨by repeat (first | (with_reducible first | exact HB.out | apply pA | apply pN | apply pD | refine pS ?_ GE460.out) | exact HB.out)⟩⟩
        · rw [if_neg c12] at H
          have c12b0 : decide (100 < (l1.length : Int)) = false := decide_eq_false c12
          have c12b1 : decide (100 < l1.length) = false := decide_eq_false (by omega)
          clear c12
          (first | rw [c12b0] | (simp only [i64_w, i32_w]; rw [c12b0]) | skip)
          have H' := Aside0.mk H
          clear H
          have hcz17_0 : w7.cell? ⟨gb460, 0, none⟩ = some (.slice A0_0 l0_0.length c0_0) := (blk_cell BK460.out 0).trans rfl
          have hcz17_1 : w7.cell? ⟨gb460, 1, none⟩ = some (.slice A0_1 l0_1.length c0_1) := (blk_cell BK460.out 1).trans rfl
          have hfz17_0 := blk_frozen BK460.out 0
          have hfz17_1 := blk_frozen BK460.out 1
          go_wp2_with (first | ((with_reducible refine gate_callee (f := 10) rfl ?_); refine goesL_ (some 12) rfl rfl Try.func10 (by kernel_rfl) rfl #[.agg #[.slice A0_0 l0_0.length c0_0, .slice A0_1 l0_1.length c0_1]] rfl (by (try simp only [List.map_toArray, List.map_cons, List.map_nil]); first | done | rfl | (simp only [List.length_drop, List.length_take]; rfl)) ?_; (with_reducible refine (portreeveref03_Small.calls k _ _ l0_0 _ _ l0_1 true _ ?side1 ?side2 ?side3 ?side4 A8.out).mono ?_); (case side1 => repeat (first | exact (Kd.C_below HR0_0.out HB.out) | (with_reducible refine Kd.C_alloc ?_ _) | (with_reducible refine Kd.C_drewN ?_ _) | (with_reducible refine Kd.C_drew ?_))); (case side2 => exact HC0_0.out); (case side3 => repeat (first | exact (Kd.C_below HR0_1.out HB.out) | (with_reducible refine Kd.C_alloc ?_ _) | (with_reducible refine Kd.C_drewN ?_ _) | (with_reducible refine Kd.C_drew ?_))); (case side4 => exact HC0_1.out); rintro e w18 ⟨rfl, hb⟩; refine ⟨_, rfl, ?_⟩; have n0_ := Aside0.mk (blk_below (g := gb460) (o := .cells #[.slice A0_0 l0_0.length c0_0, .slice A0_1 l0_1.length c0_1] 25 (0, 0)) (by (with_reducible repeat (first | refine qN ?_ _ | refine qD ?_ | refine qA ?_ _)); exact BK460.out) hb); have n1_ := Aside0.mk (below_step (by repeat (first | (with_reducible first | exact HB.out | apply pA | apply pN | apply pD | refine pS ?_ GE460.out) | exact HB.out)) hb); clear BK460; clear HB; have BK460 := n0_; have HB := n1_; clear n0_ n1_; (try clear hb); (try clear hb2); (try clear hk); (try clear hi); have hcz19_0 : w18.cell? ⟨gb460, 0, none⟩ = some (.slice A0_0 l0_0.length c0_0) := (blk_cell BK460.out 0).trans rfl; have hcz19_1 : w18.cell? ⟨gb460, 1, none⟩ = some (.slice A0_1 l0_1.length c0_1) := (blk_cell BK460.out 1).trans rfl; have hfz19_0 := blk_frozen BK460.out 0; have hfz19_1 := blk_frozen BK460.out 1) | (go_at_call 11; (with_reducible refine (portreeveref03_Right.calls k _ _ l0_0 _ _ l0_1 true _ ?side1 ?side2 ?side3 ?side4 A10.out).mono ?_); (case side1 => repeat (first | exact (Kd.C_below HR0_0.out HB.out) | (with_reducible refine Kd.C_alloc ?_ _) | (with_reducible refine Kd.C_drewN ?_ _) | (with_reducible refine Kd.C_drew ?_))); (case side2 => exact HC0_0.out); (case side3 => repeat (first | exact (Kd.C_below HR0_1.out HB.out) | (with_reducible refine Kd.C_alloc ?_ _) | (with_reducible refine Kd.C_drewN ?_ _) | (with_reducible refine Kd.C_drew ?_))); (case side4 => exact HC0_1.out); rintro e w20 ⟨rfl, hb⟩; have n0_ := Aside0.mk (blk_below (g := gb460) (o := .cells #[.slice A0_0 l0_0.length c0_0, .slice A0_1 l0_1.length c0_1] 25 (0, 0)) (by (with_reducible repeat (first | refine qN ?_ _ | refine qD ?_ | refine qA ?_ _)); exact BK460.out) hb); have n1_ := Aside0.mk (below_step (by repeat (first | (with_reducible first | exact HB.out | apply pA | apply pN | apply pD | refine pS ?_ GE460.out) | exact HB.out)) hb); clear BK460; clear HB; have BK460 := n0_; have HB := n1_; clear n0_ n1_; (try clear hb); (try clear hb2); (try clear hk); (try clear hi)))
          go_meet
          case rel => exact ⟨_, (decide ((l2.length : Int) > 100)), (by first | rfl | (simp; done) | (simp [*]; done)), H', ⟨by first | omega | exact Nat.le_refl _⟩, ⟨by (with_reducible repeat (first | refine qN ?_ _ | refine qD ?_ | refine qA ?_ _)); exact BK460.out⟩, ⟨by repeat (first | (with_reducible first | exact HB.out | apply pA | apply pN | apply pD | refine pS ?_ GE460.out) | exact HB.out)⟩⟩
      · replace c11 := Bool.eq_false_iff.mpr c11
        subst c11
        have H1 : (portreevelaw03_DiskTwice.j0 k l1 l2 t461 true l0_0 l0_1) = some r := by rw [if_neg (show ¬ (false = true) by decide)] at H; exact H
        clear H
        have H := H1
        clear H1
        have H' := Aside0.mk H
        clear H
        have hcz21_0 : w7.cell? ⟨gb460, 0, none⟩ = some (.slice A0_0 l0_0.length c0_0) := (blk_cell BK460.out 0).trans rfl
        have hcz21_1 : w7.cell? ⟨gb460, 1, none⟩ = some (.slice A0_1 l0_1.length c0_1) := (blk_cell BK460.out 1).trans rfl
        have hfz21_0 := blk_frozen BK460.out 0
        have hfz21_1 := blk_frozen BK460.out 1
        go_wp2_with (first | ((with_reducible refine gate_callee (f := 10) rfl ?_); refine goesL_ (some 12) rfl rfl Try.func10 (by kernel_rfl) rfl #[.agg #[.slice A0_0 l0_0.length c0_0, .slice A0_1 l0_1.length c0_1]] rfl (by (try simp only [List.map_toArray, List.map_cons, List.map_nil]); first | done | rfl | (simp only [List.length_drop, List.length_take]; rfl)) ?_; (with_reducible refine (portreeveref03_Small.calls k _ _ l0_0 _ _ l0_1 true _ ?side1 ?side2 ?side3 ?side4 A8.out).mono ?_); (case side1 => repeat (first | exact (Kd.C_below HR0_0.out HB.out) | (with_reducible refine Kd.C_alloc ?_ _) | (with_reducible refine Kd.C_drewN ?_ _) | (with_reducible refine Kd.C_drew ?_))); (case side2 => exact HC0_0.out); (case side3 => repeat (first | exact (Kd.C_below HR0_1.out HB.out) | (with_reducible refine Kd.C_alloc ?_ _) | (with_reducible refine Kd.C_drewN ?_ _) | (with_reducible refine Kd.C_drew ?_))); (case side4 => exact HC0_1.out); rintro e w22 ⟨rfl, hb⟩; refine ⟨_, rfl, ?_⟩; have n0_ := Aside0.mk (blk_below (g := gb460) (o := .cells #[.slice A0_0 l0_0.length c0_0, .slice A0_1 l0_1.length c0_1] 25 (0, 0)) (by (with_reducible repeat (first | refine qN ?_ _ | refine qD ?_ | refine qA ?_ _)); exact BK460.out) hb); have n1_ := Aside0.mk (below_step (by repeat (first | (with_reducible first | exact HB.out | apply pA | apply pN | apply pD | refine pS ?_ GE460.out) | exact HB.out)) hb); clear BK460; clear HB; have BK460 := n0_; have HB := n1_; clear n0_ n1_; (try clear hb); (try clear hb2); (try clear hk); (try clear hi); have hcz23_0 : w22.cell? ⟨gb460, 0, none⟩ = some (.slice A0_0 l0_0.length c0_0) := (blk_cell BK460.out 0).trans rfl; have hcz23_1 : w22.cell? ⟨gb460, 1, none⟩ = some (.slice A0_1 l0_1.length c0_1) := (blk_cell BK460.out 1).trans rfl; have hfz23_0 := blk_frozen BK460.out 0; have hfz23_1 := blk_frozen BK460.out 1) | (go_at_call 11; (with_reducible refine (portreeveref03_Right.calls k _ _ l0_0 _ _ l0_1 false _ ?side1 ?side2 ?side3 ?side4 A10.out).mono ?_); (case side1 => repeat (first | exact (Kd.C_below HR0_0.out HB.out) | (with_reducible refine Kd.C_alloc ?_ _) | (with_reducible refine Kd.C_drewN ?_ _) | (with_reducible refine Kd.C_drew ?_))); (case side2 => exact HC0_0.out); (case side3 => repeat (first | exact (Kd.C_below HR0_1.out HB.out) | (with_reducible refine Kd.C_alloc ?_ _) | (with_reducible refine Kd.C_drewN ?_ _) | (with_reducible refine Kd.C_drew ?_))); (case side4 => exact HC0_1.out); rintro e w24 ⟨rfl, hb⟩; have n0_ := Aside0.mk (blk_below (g := gb460) (o := .cells #[.slice A0_0 l0_0.length c0_0, .slice A0_1 l0_1.length c0_1] 25 (0, 0)) (by (with_reducible repeat (first | refine qN ?_ _ | refine qD ?_ | refine qA ?_ _)); exact BK460.out) hb); have n1_ := Aside0.mk (below_step (by repeat (first | (with_reducible first | exact HB.out | apply pA | apply pN | apply pD | refine pS ?_ GE460.out) | exact HB.out)) hb); clear BK460; clear HB; have BK460 := n0_; have HB := n1_; clear n0_ n1_; (try clear hb); (try clear hb2); (try clear hk); (try clear hi)))
        go_meet
        case rel => exact ⟨_, (true), (by first | rfl | (simp; done) | (simp [*]; done)), H', ⟨by first | omega | exact Nat.le_refl _⟩, ⟨by (with_reducible repeat (first | refine qN ?_ _ | refine qD ?_ | refine qA ?_ _)); exact BK460.out⟩, ⟨by repeat (first | (with_reducible first | exact HB.out | apply pA | apply pN | apply pD | refine pS ?_ GE460.out) | exact HB.out)⟩⟩
    · replace c9 := Bool.eq_false_iff.mpr c9
      subst c9
      have H1 : (portreevelaw03_DiskTwice.j0 k l1 l2 t461 true l0_0 l0_1) = some r := by rw [if_neg (show ¬ (false = true) by decide)] at H; exact H
      clear H
      have H := H1
      clear H1
      have H' := Aside0.mk H
      clear H
      have hcz25_0 : w7.cell? ⟨gb460, 0, none⟩ = some (.slice A0_0 l0_0.length c0_0) := (blk_cell BK460.out 0).trans rfl
      have hcz25_1 : w7.cell? ⟨gb460, 1, none⟩ = some (.slice A0_1 l0_1.length c0_1) := (blk_cell BK460.out 1).trans rfl
      have hfz25_0 := blk_frozen BK460.out 0
      have hfz25_1 := blk_frozen BK460.out 1
      go_wp2_with (first | ((with_reducible refine gate_callee (f := 10) rfl ?_); refine goesL_ (some 12) rfl rfl Try.func10 (by kernel_rfl) rfl #[.agg #[.slice A0_0 l0_0.length c0_0, .slice A0_1 l0_1.length c0_1]] rfl (by (try simp only [List.map_toArray, List.map_cons, List.map_nil]); first | done | rfl | (simp only [List.length_drop, List.length_take]; rfl)) ?_; (with_reducible refine (portreeveref03_Small.calls k _ _ l0_0 _ _ l0_1 false _ ?side1 ?side2 ?side3 ?side4 A8.out).mono ?_); (case side1 => repeat (first | exact (Kd.C_below HR0_0.out HB.out) | (with_reducible refine Kd.C_alloc ?_ _) | (with_reducible refine Kd.C_drewN ?_ _) | (with_reducible refine Kd.C_drew ?_))); (case side2 => exact HC0_0.out); (case side3 => repeat (first | exact (Kd.C_below HR0_1.out HB.out) | (with_reducible refine Kd.C_alloc ?_ _) | (with_reducible refine Kd.C_drewN ?_ _) | (with_reducible refine Kd.C_drew ?_))); (case side4 => exact HC0_1.out); rintro e w26 ⟨rfl, hb⟩; refine ⟨_, rfl, ?_⟩; have n0_ := Aside0.mk (blk_below (g := gb460) (o := .cells #[.slice A0_0 l0_0.length c0_0, .slice A0_1 l0_1.length c0_1] 25 (0, 0)) (by (with_reducible repeat (first | refine qN ?_ _ | refine qD ?_ | refine qA ?_ _)); exact BK460.out) hb); have n1_ := Aside0.mk (below_step (by repeat (first | (with_reducible first | exact HB.out | apply pA | apply pN | apply pD | refine pS ?_ GE460.out) | exact HB.out)) hb); clear BK460; clear HB; have BK460 := n0_; have HB := n1_; clear n0_ n1_; (try clear hb); (try clear hb2); (try clear hk); (try clear hi)))
      go_meet
      case rel => exact ⟨_, (true), (by first | rfl | (simp; done) | (simp [*]; done)), H', ⟨by first | omega | exact Nat.le_refl _⟩, ⟨by (with_reducible repeat (first | refine qN ?_ _ | refine qD ?_ | refine qA ?_ _)); exact BK460.out⟩, ⟨by repeat (first | (with_reducible first | exact HB.out | apply pA | apply pN | apply pD | refine pS ?_ GE460.out) | exact HB.out)⟩⟩
  case rest =>
    clear HC5
    try clear c1
    try clear c2
    try clear p2
    try clear c7
    try clear c9
    try clear c10
    try clear c11
    try clear c12
    try clear c12b0
    try clear c12b1
    try clear hcz13_0
    try clear hcz13_1
    try clear hcz15_0
    try clear hcz15_1
    try clear hcz17_0
    try clear hcz17_1
    try clear hcz19_0
    try clear hcz19_1
    try clear hcz21_0
    try clear hcz21_1
    try clear hcz23_0
    try clear hcz23_1
    try clear hcz25_0
    try clear hcz25_1
    try clear hfz13_0
    try clear hfz13_1
    try clear hfz15_0
    try clear hfz15_1
    try clear hfz17_0
    try clear hfz17_1
    try clear hfz19_0
    try clear hfz19_1
    try clear hfz21_0
    try clear hfz21_1
    try clear hfz23_0
    try clear hfz23_1
    try clear hfz25_0
    try clear hfz25_1
    obtain ⟨kq, x28_4, rfl, HA, HJ4, BK460, HB⟩ := hcut
    cases kq with
    | zero => exact absurd HA.out (by simp [portreevelaw03_DiskTwice.j0])
    | succ kj4 =>
      have H := HA.out
      clear HA
      simp only [portreevelaw03_DiskTwice.j0] at H
      by_cases c27 : x28_4 = true
      · subst c27
        have H1 : (some t461) = some r := by rw [if_pos rfl] at H; exact H
        clear H
        have H := H1
        clear H1
        clear hlaw_
        obtain rfl := Option.some.inj H
        go_wp2
        go_ret
        exact ⟨by first | rfl | (simp [errW_none, errW_some] <;> rfl) | (simp [*, errW_none, errW_some] <;> rfl), by repeat (first | (with_reducible first | exact HB.out | apply pA | apply pN | apply pD | refine pS ?_ GE460.out) | exact HB.out)⟩
      · replace c27 := Bool.eq_false_iff.mpr c27
        subst c27
        have H1 : ((disk_Crash.f kj4 l0_0 l0_1 l1).bind fun bt464 => ((some (([] : List Bool) : List Bool)).bind fun y471 => (if y471.length + l1.length < 140737488355328 then ((some (y471 ++ l1 : List Bool)).bind fun y474 => (if y474.length + 100 < 140737488355328 then (if t461 = true then ((disk_Crash.f kj4 bt464.1 bt464.2 l2).bind fun bt480 => ((portreeveref03_Same.f kj4 bt480.1 bt480.2 bt464.1 bt464.2).bind fun t486 => (if t486 = true then ((disk_Flush.f kj4 bt464.1 bt464.2).bind fun bt487 => ((portreeveref03_Same.f kj4 bt487.1 bt487.2 bt464.1 bt464.2).bind fun t493 => (if t493 = true then ((disk_Crash.f kj4 l0_0 l0_1 (y474 ++ List.replicate 100 false)).bind fun bt494 => ((portreeveref03_Same.f kj4 bt494.1 bt494.2 bt464.1 bt464.2).bind fun t500 => (if t500 = true then ((disk_Right.f kj4 bt464.1 bt464.2).bind fun t501 => (some t501)) else (some false)))) else (some false)))) else (some false)))) else (some false)) else (none))) else (none)))) = some r := by rw [if_neg (show ¬ (false = true) by decide)] at H; exact H
        clear H
        have H := H1
        clear H1
        replace H := Option.bind_eq_some_iff.mp H
        obtain ⟨⟨t464, t467⟩, A280, H⟩ := H
        replace H : ((some (([] : List Bool) : List Bool)).bind fun y471 => (if y471.length + l1.length < 140737488355328 then ((some (y471 ++ l1 : List Bool)).bind fun y474 => (if y474.length + 100 < 140737488355328 then (if t461 = true then ((disk_Crash.f kj4 t464 t467 l2).bind fun bt480 => ((portreeveref03_Same.f kj4 bt480.1 bt480.2 t464 t467).bind fun t486 => (if t486 = true then ((disk_Flush.f kj4 t464 t467).bind fun bt487 => ((portreeveref03_Same.f kj4 bt487.1 bt487.2 t464 t467).bind fun t493 => (if t493 = true then ((disk_Crash.f kj4 l0_0 l0_1 (y474 ++ List.replicate 100 false)).bind fun bt494 => ((portreeveref03_Same.f kj4 bt494.1 bt494.2 t464 t467).bind fun t500 => (if t500 = true then ((disk_Right.f kj4 t464 t467).bind fun t501 => (some t501)) else (some false)))) else (some false)))) else (some false)))) else (some false)) else (none))) else (none))) = some r := H
        have A28 := Aside0.mk A280
        clear A280
        obtain ⟨y471, hy471⟩ : ∃ y_ : List Bool, y_ = (([] : List Bool)) := ⟨_, rfl⟩
        replace H : (if y471.length + l1.length < 140737488355328 then ((some (y471 ++ l1 : List Bool)).bind fun y474 => (if y474.length + 100 < 140737488355328 then (if t461 = true then ((disk_Crash.f kj4 t464 t467 l2).bind fun bt480 => ((portreeveref03_Same.f kj4 bt480.1 bt480.2 t464 t467).bind fun t486 => (if t486 = true then ((disk_Flush.f kj4 t464 t467).bind fun bt487 => ((portreeveref03_Same.f kj4 bt487.1 bt487.2 t464 t467).bind fun t493 => (if t493 = true then ((disk_Crash.f kj4 l0_0 l0_1 (y474 ++ List.replicate 100 false)).bind fun bt494 => ((portreeveref03_Same.f kj4 bt494.1 bt494.2 t464 t467).bind fun t500 => (if t500 = true then ((disk_Right.f kj4 t464 t467).bind fun t501 => (some t501)) else (some false)))) else (some false)))) else (some false)))) else (some false)) else (none))) else (none)) = some r := by first | (rw [hy471]; with_reducible exact H) | (have H2_ := (Option.bind_some _ _).symm.trans H; rw [hy471]; with_reducible exact H2_) | (have H2_ := (Option.bind_some _ _).symm.trans H; with_reducible exact H2_) | with_reducible exact H | (rw [hy471]; exact H) | exact H
        have Ny471 := Aside0.mk hy471
        clear hy471
        by_cases c29 : y471.length + l1.length < 140737488355328
        · rw [if_pos c29] at H
          have LMc29 := Aside0.mk c29
          clear c29
          obtain ⟨y474, hy474⟩ : ∃ y_ : List Bool, y_ = (y471 ++ l1) := ⟨_, rfl⟩
          replace H : (if y474.length + 100 < 140737488355328 then (if t461 = true then ((disk_Crash.f kj4 t464 t467 l2).bind fun bt480 => ((portreeveref03_Same.f kj4 bt480.1 bt480.2 t464 t467).bind fun t486 => (if t486 = true then ((disk_Flush.f kj4 t464 t467).bind fun bt487 => ((portreeveref03_Same.f kj4 bt487.1 bt487.2 t464 t467).bind fun t493 => (if t493 = true then ((disk_Crash.f kj4 l0_0 l0_1 (y474 ++ List.replicate 100 false)).bind fun bt494 => ((portreeveref03_Same.f kj4 bt494.1 bt494.2 t464 t467).bind fun t500 => (if t500 = true then ((disk_Right.f kj4 t464 t467).bind fun t501 => (some t501)) else (some false)))) else (some false)))) else (some false)))) else (some false)) else (none)) = some r := by first | (rw [hy474]; with_reducible exact H) | (have H2_ := (Option.bind_some _ _).symm.trans H; rw [hy474]; with_reducible exact H2_) | (have H2_ := (Option.bind_some _ _).symm.trans H; with_reducible exact H2_) | with_reducible exact H | (rw [hy474]; exact H) | exact H
          have Ny474 := Aside0.mk hy474
          clear hy474
          by_cases c30 : y474.length + 100 < 140737488355328
          · rw [if_pos c30] at H
            have LMc30 := Aside0.mk c30
            clear c30
            obtain ⟨y477, hy477⟩ : ∃ y_ : List Bool, y_ = (y474 ++ List.replicate 100 false) := ⟨_, rfl⟩
            replace H : (if t461 = true then ((disk_Crash.f kj4 t464 t467 l2).bind fun bt480 => ((portreeveref03_Same.f kj4 bt480.1 bt480.2 t464 t467).bind fun t486 => (if t486 = true then ((disk_Flush.f kj4 t464 t467).bind fun bt487 => ((portreeveref03_Same.f kj4 bt487.1 bt487.2 t464 t467).bind fun t493 => (if t493 = true then ((disk_Crash.f kj4 l0_0 l0_1 y477).bind fun bt494 => ((portreeveref03_Same.f kj4 bt494.1 bt494.2 t464 t467).bind fun t500 => (if t500 = true then ((disk_Right.f kj4 t464 t467).bind fun t501 => (some t501)) else (some false)))) else (some false)))) else (some false)))) else (some false)) = some r := by first | (rw [hy477]; with_reducible exact H) | (have H2_ := (Option.bind_some _ _).symm.trans H; rw [hy477]; with_reducible exact H2_) | (have H2_ := (Option.bind_some _ _).symm.trans H; with_reducible exact H2_) | with_reducible exact H | (rw [hy477]; exact H) | exact H
            have Ny477 := Aside0.mk hy477
            clear hy477
            by_cases c31 : t461 = true
            · subst c31
              have H1 : ((disk_Crash.f kj4 t464 t467 l2).bind fun bt480 => ((portreeveref03_Same.f kj4 bt480.1 bt480.2 t464 t467).bind fun t486 => (if t486 = true then ((disk_Flush.f kj4 t464 t467).bind fun bt487 => ((portreeveref03_Same.f kj4 bt487.1 bt487.2 t464 t467).bind fun t493 => (if t493 = true then ((disk_Crash.f kj4 l0_0 l0_1 y477).bind fun bt494 => ((portreeveref03_Same.f kj4 bt494.1 bt494.2 t464 t467).bind fun t500 => (if t500 = true then ((disk_Right.f kj4 t464 t467).bind fun t501 => (some t501)) else (some false)))) else (some false)))) else (some false)))) = some r := by rw [if_pos rfl] at H; exact H
              clear H
              have H := H1
              clear H1
              replace H := Option.bind_eq_some_iff.mp H
              obtain ⟨⟨t480, t483⟩, A320, H⟩ := H
              replace H : ((portreeveref03_Same.f kj4 t480 t483 t464 t467).bind fun t486 => (if t486 = true then ((disk_Flush.f kj4 t464 t467).bind fun bt487 => ((portreeveref03_Same.f kj4 bt487.1 bt487.2 t464 t467).bind fun t493 => (if t493 = true then ((disk_Crash.f kj4 l0_0 l0_1 y477).bind fun bt494 => ((portreeveref03_Same.f kj4 bt494.1 bt494.2 t464 t467).bind fun t500 => (if t500 = true then ((disk_Right.f kj4 t464 t467).bind fun t501 => (some t501)) else (some false)))) else (some false)))) else (some false))) = some r := H
              have A32 := Aside0.mk A320
              clear A320
              replace H := Option.bind_eq_some_iff.mp H
              obtain ⟨t486, A330, H⟩ := H
              replace H : (if t486 = true then ((disk_Flush.f kj4 t464 t467).bind fun bt487 => ((portreeveref03_Same.f kj4 bt487.1 bt487.2 t464 t467).bind fun t493 => (if t493 = true then ((disk_Crash.f kj4 l0_0 l0_1 y477).bind fun bt494 => ((portreeveref03_Same.f kj4 bt494.1 bt494.2 t464 t467).bind fun t500 => (if t500 = true then ((disk_Right.f kj4 t464 t467).bind fun t501 => (some t501)) else (some false)))) else (some false)))) else (some false)) = some r := H
              have A33 := Aside0.mk A330
              clear A330
              by_cases c34 : t486 = true
              · subst c34
                have H1 : ((disk_Flush.f kj4 t464 t467).bind fun bt487 => ((portreeveref03_Same.f kj4 bt487.1 bt487.2 t464 t467).bind fun t493 => (if t493 = true then ((disk_Crash.f kj4 l0_0 l0_1 y477).bind fun bt494 => ((portreeveref03_Same.f kj4 bt494.1 bt494.2 t464 t467).bind fun t500 => (if t500 = true then ((disk_Right.f kj4 t464 t467).bind fun t501 => (some t501)) else (some false)))) else (some false)))) = some r := by rw [if_pos rfl] at H; exact H
                clear H
                have H := H1
                clear H1
                replace H := Option.bind_eq_some_iff.mp H
                obtain ⟨⟨t487, t490⟩, A350, H⟩ := H
                replace H : ((portreeveref03_Same.f kj4 t487 t490 t464 t467).bind fun t493 => (if t493 = true then ((disk_Crash.f kj4 l0_0 l0_1 y477).bind fun bt494 => ((portreeveref03_Same.f kj4 bt494.1 bt494.2 t464 t467).bind fun t500 => (if t500 = true then ((disk_Right.f kj4 t464 t467).bind fun t501 => (some t501)) else (some false)))) else (some false))) = some r := H
                have A35 := Aside0.mk A350
                clear A350
                replace H := Option.bind_eq_some_iff.mp H
                obtain ⟨t493, A360, H⟩ := H
                replace H : (if t493 = true then ((disk_Crash.f kj4 l0_0 l0_1 y477).bind fun bt494 => ((portreeveref03_Same.f kj4 bt494.1 bt494.2 t464 t467).bind fun t500 => (if t500 = true then ((disk_Right.f kj4 t464 t467).bind fun t501 => (some t501)) else (some false)))) else (some false)) = some r := H
                have A36 := Aside0.mk A360
                clear A360
                by_cases c37 : t493 = true
                · subst c37
                  have H1 : ((disk_Crash.f kj4 l0_0 l0_1 y477).bind fun bt494 => ((portreeveref03_Same.f kj4 bt494.1 bt494.2 t464 t467).bind fun t500 => (if t500 = true then ((disk_Right.f kj4 t464 t467).bind fun t501 => (some t501)) else (some false)))) = some r := by rw [if_pos rfl] at H; exact H
                  clear H
                  have H := H1
                  clear H1
                  replace H := Option.bind_eq_some_iff.mp H
                  obtain ⟨⟨t494, t497⟩, A380, H⟩ := H
                  replace H : ((portreeveref03_Same.f kj4 t494 t497 t464 t467).bind fun t500 => (if t500 = true then ((disk_Right.f kj4 t464 t467).bind fun t501 => (some t501)) else (some false))) = some r := H
                  have A38 := Aside0.mk A380
                  clear A380
                  replace H := Option.bind_eq_some_iff.mp H
                  obtain ⟨t500, A390, H⟩ := H
                  replace H : (if t500 = true then ((disk_Right.f kj4 t464 t467).bind fun t501 => (some t501)) else (some false)) = some r := H
                  have A39 := Aside0.mk A390
                  clear A390
                  by_cases c40 : t500 = true
                  · subst c40
                    have H1 : ((disk_Right.f kj4 t464 t467).bind fun t501 => (some t501)) = some r := by rw [if_pos rfl] at H; exact H
                    clear H
                    have H := H1
                    clear H1
                    replace H := Option.bind_eq_some_iff.mp H
                    obtain ⟨t501, A410, H⟩ := H
                    replace H : (some t501) = some r := H
                    have A41 := Aside0.mk A410
                    clear A410
                    clear hlaw_
                    obtain rfl := Option.some.inj H
                    have hcz42_0 : wc.cell? ⟨gb460, 0, none⟩ = some (.slice A0_0 l0_0.length c0_0) := (blk_cell BK460.out 0).trans rfl
                    have hcz42_1 : wc.cell? ⟨gb460, 1, none⟩ = some (.slice A0_1 l0_1.length c0_1) := (blk_cell BK460.out 1).trans rfl
                    have hfz42_0 := blk_frozen BK460.out 0
                    have hfz42_1 := blk_frozen BK460.out 1
                    try go_wp2_with (first | ((with_reducible refine gate_callee (f := 20) rfl ?_); refine goesL_ (some 32) rfl rfl Try.func20 (by kernel_rfl) rfl #[.agg #[.slice A0_0 l0_0.length c0_0, .slice A0_1 l0_1.length c0_1], .slice A1 l1.length c1] rfl (by (try simp only [List.map_toArray, List.map_cons, List.map_nil]); first | done | rfl | (simp only [List.length_drop, List.length_take]; rfl)) ?_; (with_reducible refine (disk_Crash.calls kj4 (fun k_ => k_ < w.heap.size) _ _ l0_0 (fun k_ => k_ < w.heap.size) _ _ l0_1 _ _ l1 t464 t467 _ ?side1 ?side2 ?side3 ?side4 A28.out).mono ?_); (case side1 => exact Kd.V_mk HC0_0.out (Kd.F_below (Kd.C_F (Kd.heap_slice 5 (Kd.heap_int .u8)) HR0_0.out) (by repeat (first | (with_reducible first | exact HB.out | apply pA | apply pN | apply pD | refine pS ?_ GE460.out) | exact HB.out)))); (case side2 => exact Kd.V_mk HC0_1.out (Kd.F_below (Kd.C_F k47_heap HR0_1.out) (by repeat (first | (with_reducible first | exact HB.out | apply pA | apply pN | apply pD | refine pS ?_ GE460.out) | exact HB.out)))); (case side3 => repeat (first | exact (Kd.C_below HR1.out HB.out) | (with_reducible refine Kd.C_alloc ?_ _) | (with_reducible refine Kd.C_drewN ?_ _) | (with_reducible refine Kd.C_drew ?_))); (case side4 => exact HC1.out); rintro e w43 ⟨v465, v468, rfl, ho0, ho1, hb⟩; refine ⟨_, rfl, ?_⟩; have n0_ := Aside0.mk (Kd.N_lower (Kd.N_mono (ok' := fun k_ => some k_ ≠ (v468 : Value).ownBlock ∧ k_ ≠ gb460) ho0 (fun k_ hk_ => ⟨hk_.2, Or.elim hk_.1 (fun hs_ => Or.elim hs_ (fun hs_ => fun e_ => Nat.not_le.2 hs_ (by rw [e_]; exact GW460.out)) (fun hs_ => fun e_ => Nat.not_le.2 hs_ (by rw [e_]; exact GW460.out))) (fun hn_ => (Kd.freshB (g := gb460) (o := .cells #[.slice A0_0 l0_0.length c0_0, .slice A0_1 l0_1.length c0_1] 25 (0, 0)) (by (with_reducible repeat (first | refine qN ?_ _ | refine qD ?_ | refine qA ?_ _)); exact BK460.out) k_ hn_))⟩)) (below_size (by repeat (first | (with_reducible first | exact HB.out | apply pA | apply pN | apply pD | refine pS ?_ GE460.out) | exact HB.out)))); have n1_ := Aside0.mk (Kd.N_lower (Kd.N_mono (ok' := fun k_ => some k_ ≠ (v465 : Value).ownBlock ∧ k_ ≠ gb460) ho1 (fun k_ hk_ => ⟨hk_.2, Or.elim hk_.1 (fun hs_ => Or.elim hs_ (fun hs_ => fun e_ => Nat.not_le.2 hs_ (by rw [e_]; exact GW460.out)) (fun hs_ => fun e_ => Nat.not_le.2 hs_ (by rw [e_]; exact GW460.out))) (fun hn_ => (Kd.freshB (g := gb460) (o := .cells #[.slice A0_0 l0_0.length c0_0, .slice A0_1 l0_1.length c0_1] 25 (0, 0)) (by (with_reducible repeat (first | refine qN ?_ _ | refine qD ?_ | refine qA ?_ _)); exact BK460.out) k_ hn_))⟩)) (below_size (by repeat (first | (with_reducible first | exact HB.out | apply pA | apply pN | apply pD | refine pS ?_ GE460.out) | exact HB.out)))); have n2_ := Aside0.mk (blk_below (g := gb460) (o := .cells #[.slice A0_0 l0_0.length c0_0, .slice A0_1 l0_1.length c0_1] 25 (0, 0)) (by (with_reducible repeat (first | refine qN ?_ _ | refine qD ?_ | refine qA ?_ _)); exact BK460.out) hb); have n3_ := Aside0.mk (below_step (by repeat (first | (with_reducible first | exact HB.out | apply pA | apply pN | apply pD | refine pS ?_ GE460.out) | exact HB.out)) hb); clear BK460; clear HB; have HO466 := n0_; have HO469 := n1_; have BK460 := n2_; have HB := n3_; clear n0_ n1_ n2_ n3_; (try clear hb); (try clear hb2); (try clear hk); (try clear hi); (try clear ho0); (try clear ho1)) | ((with_reducible refine gate_dst (N := 8) rfl ?_); (try (refine gate_guard (by rfl) ?_; dsimp only)); refine box_event ?hg (N := 8) ?hd (cs := #[.slice none 0 0, .slice none 0 0]) (t := 25) ?hr ?_; (case hd => rfl); (case hg => rfl); (case hr => first | (go_simp; done) | (go_simp; rfl)); intro gb470 hg w44 hbox hb; have n0_ := Aside0.mk (Kd.N_below (Kd.N_elderB (by (with_reducible repeat (first | apply Kd.N_alloc | apply Kd.N_drewN | apply Kd.N_drew)); exact HO466.out) gb470 (Nat.le_of_eq hg.symm)) hb); have n1_ := Aside0.mk (Kd.N_below (Kd.N_elderB (by (with_reducible repeat (first | apply Kd.N_alloc | apply Kd.N_drewN | apply Kd.N_drew)); exact HO469.out) gb470 (Nat.le_of_eq hg.symm)) hb); have n2_ := Aside0.mk (blk_below (g := gb460) (o := .cells #[.slice A0_0 l0_0.length c0_0, .slice A0_1 l0_1.length c0_1] 25 (0, 0)) (by (with_reducible repeat (first | refine qN ?_ _ | refine qD ?_ | refine qA ?_ _)); exact BK460.out) hb); have n3_ := Aside0.mk (below_step (by repeat (first | (with_reducible first | exact HB.out | apply pA | apply pN | apply pD | refine pS ?_ GE460.out) | exact HB.out)) hb); have n4_ := Aside0.mk (hbox); have n5_ := Aside0.mk ((by rw [hg]; exact (below_size (by repeat (first | (with_reducible first | exact HB.out | apply pA | apply pN | apply pD | refine pS ?_ GE460.out) | exact HB.out))) : w.heap.size ≤ gb470)); have n6_ := Aside0.mk ((by rw [hg]; exact (below_size (by repeat (first | (with_reducible first | exact HB.out | apply pA | apply pN | apply pD | refine pS ?_ GE460.out) | exact HB.out))) : w.heap.size ≤ gb470)); have n7_ := Aside0.mk ((by rw [hg]; exact Nat.ne_of_lt (blk_lt (g := gb460) (o := .cells #[.slice A0_0 l0_0.length c0_0, .slice A0_1 l0_1.length c0_1] 25 (0, 0)) (by (with_reducible repeat (first | refine qN ?_ _ | refine qD ?_ | refine qA ?_ _)); exact BK460.out)) : gb460 ≠ gb470)); have n8_ := Aside0.mk ((by rw [hg]; exact Nat.ne_of_gt (blk_lt (g := gb460) (o := .cells #[.slice A0_0 l0_0.length c0_0, .slice A0_1 l0_1.length c0_1] 25 (0, 0)) (by (with_reducible repeat (first | refine qN ?_ _ | refine qD ?_ | refine qA ?_ _)); exact BK460.out)) : gb470 ≠ gb460)); clear HO466; clear HO469; clear BK460; clear HB; have HO466 := n0_; have HO469 := n1_; have BK460 := n2_; have HB := n3_; have BK470 := n4_; have GW470 := n5_; have GE470 := n6_; have NB460_470 := n7_; have NB470_460 := n8_; clear n0_ n1_ n2_ n3_ n4_ n5_ n6_ n7_ n8_; clear hb hbox hg; obtain ⟨Ao45, co45, eo45⟩ := Kd.N_slice HO466.out; subst eo45; have hnb46 := NB470_460.out; have hnc46 := NB460_470.out; have hcz47_0 : w44.cell? ⟨gb470, 0, none⟩ = some (.slice none 0 0) := (blk_cell BK470.out 0).trans rfl; have hcz47_1 : w44.cell? ⟨gb470, 1, none⟩ = some (.slice none 0 0) := (blk_cell BK470.out 1).trans rfl; have hfz47_0 := blk_frozen BK470.out 0; have hfz47_1 := blk_frozen BK470.out 1; obtain ⟨Ao48, co48, eo48⟩ := Kd.N_slice HO469.out; subst eo48) | ((with_reducible refine gate_dst (N := 33) rfl ?_); (try (refine gate_guard (by rfl) ?_; dsimp only)); refine Kd.R_lit Kd.bool _ 4 ?hg (N := 33) ?hd (xs := ([] : List Bool)) (inner := []) (ok := fun _ => True) (okp := fun _ => True) ?hr ?hp (fun _ hk => hk) trivial (Below.refl _ _) (Nat.le_refl _) (by simp) ?_; (case hd => rfl); (case hg => rfl); (case hr => first | (go_simp; done) | (go_simp; rfl)); (case hp => exact (Reps.none _ _)); intro v472 w49 ho50 hb hg_ hnew_; clear hg_ hnew_; (first | rw [← Ny471.out] at ho50 | (simp only [Int.reduceToNat] at ho50; rw [← Ny471.out] at ho50)); have n0_ := Aside0.mk (Kd.N_elder' (by (with_reducible repeat (first | apply Kd.N_alloc | apply Kd.N_drewN | apply Kd.N_drew)); exact (Kd.N_mono (Kd.N_far (p := ⟨gb470, 1, none⟩) (Kd.N_far (p := ⟨gb470, 0, none⟩) (Kd.N_mono HO466.out (fun k_ hk => (⟨hk, hk.2⟩ : _ ∧ k_ ≠ gb470))) (fun _ hk => hk.2) (.slice Ao45 t464.length co45)) (fun _ hk => hk.2) (.slice Ao48 t467.length co48)) (fun _ h_ => h_.1))) (Kd.R_base ho50) hb); have n1_ := Aside0.mk (Kd.N_elder' (by (with_reducible repeat (first | apply Kd.N_alloc | apply Kd.N_drewN | apply Kd.N_drew)); exact (Kd.N_mono (Kd.N_far (p := ⟨gb470, 1, none⟩) (Kd.N_far (p := ⟨gb470, 0, none⟩) (Kd.N_mono HO469.out (fun k_ hk => (⟨hk, hk.2⟩ : _ ∧ k_ ≠ gb470))) (fun _ hk => hk.2) (.slice Ao45 t464.length co45)) (fun _ hk => hk.2) (.slice Ao48 t467.length co48)) (fun _ h_ => h_.1))) (Kd.R_base ho50) hb); have n2_ := Aside0.mk (Kd.R_lower ho50 (below_size (by repeat (first | (with_reducible first | exact HB.out | apply pA | apply pN | apply pD | refine pS ?_ GE460.out | refine pS ?_ GE470.out) | exact HB.out)))); have n3_ := Aside0.mk (blk_below (g := gb460) (o := .cells #[.slice A0_0 l0_0.length c0_0, .slice A0_1 l0_1.length c0_1] 25 (0, 0)) (by (with_reducible repeat (first | refine qN ?_ _ | refine qD ?_ | refine qA ?_ _)); refine blk_far ?_ NB460_470.out _; (with_reducible repeat (first | refine qN ?_ _ | refine qD ?_ | refine qA ?_ _)); refine blk_far ?_ NB460_470.out _; (with_reducible repeat (first | refine qN ?_ _ | refine qD ?_ | refine qA ?_ _)); exact BK460.out) hb); have n4_ := Aside0.mk (blk_below (g := gb470) (o := .cells #[.slice Ao45 t464.length co45, .slice Ao48 t467.length co48] 25 (0, 0)) (by (with_reducible repeat (first | refine qN ?_ _ | refine qD ?_ | refine qA ?_ _)); refine blk_put (cs := #[.slice Ao45 t464.length co45, .slice none 0 0]) ?_ 1 _ rfl; (with_reducible repeat (first | refine qN ?_ _ | refine qD ?_ | refine qA ?_ _)); refine blk_put (cs := #[.slice none 0 0, .slice none 0 0]) ?_ 0 _ rfl; (with_reducible repeat (first | refine qN ?_ _ | refine qD ?_ | refine qA ?_ _)); exact BK470.out) hb); have n5_ := Aside0.mk (below_step (by repeat (first | (with_reducible first | exact HB.out | apply pA | apply pN | apply pD | refine pS ?_ GE460.out | refine pS ?_ GE470.out) | exact HB.out)) hb); clear HO466; clear HO469; clear BK460; clear BK470; clear HB; have HO466 := n0_; have HO469 := n1_; have HO473 := n2_; have BK460 := n3_; have BK470 := n4_; have HB := n5_; clear n0_ n1_ n2_ n3_ n4_ n5_; clear hb ho50) | ((with_reducible refine gate_builtin (b := .append) (xs := #[.tmp 33, .tmp 34]) rfl ?_); (try (refine gate_guard (by rfl) ?_; dsimp only)); at_builtin; refine Kd.R_append_rows Kd.bool (w0 := w) w.heap.size rfl (.tmp 33) (.tmp 34) 27 4 (.bool false) 1 rfl Try.underlying27 info4 rfl (by decide) (by omega) v472 y471 l1 _ _ _ (fun _ => True) (fun _ => False) rfl rfl ?aO ?aR (fun _ _ h => h) (fun _ h => h.elim) ?aF ?aB ?aS ?aL ?_; (case aR => repeat (first | exact (Kd.C_below HR1.out HB.out) | (with_reducible refine Kd.C_alloc ?_ _) | (with_reducible refine Kd.C_drewN ?_ _) | (with_reducible refine Kd.C_drew ?_))); (case aB => exact (by repeat (first | (with_reducible first | exact HB.out | apply pA | apply pN | apply pD | refine pS ?_ GE460.out | refine pS ?_ GE470.out) | exact HB.out))); (case aF => exact (fun _ _ => trivial)); (case aO => exact (by (with_reducible repeat (first | apply Kd.R_alloc | apply Kd.R_drewN | apply Kd.R_drew)); exact HO473.out)); (case aS => exact (below_size (by repeat (first | (with_reducible first | exact HB.out | apply pA | apply pN | apply pD | refine pS ?_ GE460.out | refine pS ?_ GE470.out) | exact HB.out)))); (case aL => have := LMc29.out; omega); intro v475 w51 ho hb hg hat; rw [← Ny474.out] at ho; have n0_ := Aside0.mk (blk_grown (g := gb460) (o := .cells #[.slice A0_0 l0_0.length c0_0, .slice A0_1 l0_1.length c0_1] 25 (0, 0)) (by (with_reducible repeat (first | refine qN ?_ _ | refine qD ?_ | refine qA ?_ _)); exact BK460.out) hg (Kd.R_ne HO473.out BK460.out (by decide))); have n1_ := Aside0.mk (Kd.N_afterv (ok := (fun k_ => some k_ ≠ (.slice Ao48 t467.length co48 : Value).ownBlock ∧ k_ ≠ gb460 ∧ k_ ≠ gb470)) (by (with_reducible repeat (first | apply Kd.N_alloc | apply Kd.N_drewN | apply Kd.N_drew)); exact Kd.N_mono HO466.out (fun _ hk => ⟨⟨hk.1.1.1, ⟨hk.1.1.2, hk.1.2⟩⟩, hk.2⟩)) hg hat); have n2_ := Aside0.mk (Kd.N_afterv (ok := (fun k_ => some k_ ≠ (.slice Ao45 t464.length co45 : Value).ownBlock ∧ k_ ≠ gb460 ∧ k_ ≠ gb470)) (by (with_reducible repeat (first | apply Kd.N_alloc | apply Kd.N_drewN | apply Kd.N_drew)); exact Kd.N_mono HO469.out (fun _ hk => ⟨⟨hk.1.1.1, ⟨hk.1.1.2, hk.1.2⟩⟩, hk.2⟩)) hg hat); have n3_ := Aside0.mk (blk_grown (g := gb470) (o := .cells #[.slice Ao45 t464.length co45, .slice Ao48 t467.length co48] 25 (0, 0)) (by (with_reducible repeat (first | refine qN ?_ _ | refine qD ?_ | refine qA ?_ _)); exact BK470.out) hg (Kd.R_ne HO473.out BK470.out (by decide))); have n4_ := Aside0.mk (hb); have n5_ := Aside0.mk (ho); clear BK460; clear HO466; clear HO469; clear BK470; clear HB; clear HO473; have BK460 := n0_; have HO466 := n1_; have HO469 := n2_; have BK470 := n3_; have HB := n4_; have HO476 := n5_; clear n0_ n1_ n2_ n3_ n4_ n5_; clear ho hb hg hat) | (at_builtin; refine Kd.R_append_zeros Kd.bool (w0 := w) w.heap.size rfl (.tmp 35) (.const (.int .i64 100)) 27 3 4 (.bool false) 1 rfl Try.underlying27 Try.underlying3 info4 rfl (by decide) (by omega) v475 y474 false (100 : Int) (fun _ => True) rfl rfl rfl ?aF ?aO (by omega) ?aB ?aS ?aL ?_; (case aB => exact (by repeat (first | (with_reducible first | exact HB.out | apply pA | apply pN | apply pD | refine pS ?_ GE460.out | refine pS ?_ GE470.out) | exact HB.out))); (case aF => exact (fun _ _ => trivial)); (case aO => exact (by (with_reducible repeat (first | apply Kd.R_alloc | apply Kd.R_drewN | apply Kd.R_drew)); exact HO476.out)); (case aS => exact (below_size (by repeat (first | (with_reducible first | exact HB.out | apply pA | apply pN | apply pD | refine pS ?_ GE460.out | refine pS ?_ GE470.out) | exact HB.out)))); (case aL => have := LMc30.out; omega); intro v478 w52 ho hb hg hat; (try simp only [Int.reduceToNat] at ho); rw [← Ny477.out] at ho; have n0_ := Aside0.mk (blk_grown (g := gb460) (o := .cells #[.slice A0_0 l0_0.length c0_0, .slice A0_1 l0_1.length c0_1] 25 (0, 0)) (by (with_reducible repeat (first | refine qN ?_ _ | refine qD ?_ | refine qA ?_ _)); exact BK460.out) hg (Kd.R_ne HO476.out BK460.out (by decide))); have n1_ := Aside0.mk (Kd.N_afterv (ok := (fun k_ => some k_ ≠ (.slice Ao48 t467.length co48 : Value).ownBlock ∧ k_ ≠ gb460 ∧ k_ ≠ gb470)) (by (with_reducible repeat (first | apply Kd.N_alloc | apply Kd.N_drewN | apply Kd.N_drew)); exact HO466.out) hg hat); have n2_ := Aside0.mk (Kd.N_afterv (ok := (fun k_ => some k_ ≠ (.slice Ao45 t464.length co45 : Value).ownBlock ∧ k_ ≠ gb460 ∧ k_ ≠ gb470)) (by (with_reducible repeat (first | apply Kd.N_alloc | apply Kd.N_drewN | apply Kd.N_drew)); exact HO469.out) hg hat); have n3_ := Aside0.mk (blk_grown (g := gb470) (o := .cells #[.slice Ao45 t464.length co45, .slice Ao48 t467.length co48] 25 (0, 0)) (by (with_reducible repeat (first | refine qN ?_ _ | refine qD ?_ | refine qA ?_ _)); exact BK470.out) hg (Kd.R_ne HO476.out BK470.out (by decide))); have n4_ := Aside0.mk (hb); have n5_ := Aside0.mk (ho); clear BK460; clear HO466; clear HO469; clear BK470; clear HB; clear HO476; have BK460 := n0_; have HO466 := n1_; have HO469 := n2_; have BK470 := n3_; have HB := n4_; have HO479 := n5_; clear n0_ n1_ n2_ n3_ n4_ n5_; clear ho hb hg hat))
                    have n0_ := Aside0.mk (Kd.N_drew HO466.out)
                    have n1_ := Aside0.mk (Kd.N_drew HO469.out)
                    have n2_ := Aside0.mk (Kd.R_drew HO479.out)
                    have n3_ := Aside0.mk (qD BK460.out)
                    have n4_ := Aside0.mk (qD BK470.out)
                    have n5_ := Aside0.mk (pD HB.out)
                    clear HO466
                    clear HO469
                    clear HO479
                    clear BK460
                    clear BK470
                    clear HB
                    have HO466 := n0_
                    have HO469 := n1_
                    have HO479 := n2_
                    have BK460 := n3_
                    have BK470 := n4_
                    have HB := n5_
                    clear n0_ n1_ n2_ n3_ n4_ n5_
                    refine start_ (n := 26) (S := fun w' => w'.cell? ⟨gb470, 0, none⟩ = some (.slice Ao45 t464.length co45) ∧ w'.cell? ⟨gb470, 1, none⟩ = some (.slice Ao48 t467.length co48) ∧ w'.cell? ⟨gb460, 0, none⟩ = some (.slice A0_0 l0_0.length c0_0) ∧ w'.cell? ⟨gb460, 1, none⟩ = some (.slice A0_1 l0_1.length c0_1)) (ds := []) #[false, false, false, false, false, false, false, false, false, false, false, false, false, false, false, false, false, false, false, false, false, false, false, false, false, false] (by kernel_rfl) rfl rfl ⟨(blk_cell BK470.out 0).trans rfl, (blk_cell BK470.out 1).trans rfl, (blk_cell BK460.out 0).trans rfl, (blk_cell BK460.out 1).trans rfl⟩ (fun hHeld => ?_); refine with_tabW portreevelaw03_DiskTwice.tab6 portreevelaw03_DiskTwice.bits6 (fun HT_ HW_ => ?_)
                    generalize w52.drew = w53 at HO466 HO469 HO479 BK460 BK470 HB hHeld ⊢
                    refine pure_ (i := 0) (N := some 37) (v := ?_) (a' := ?_) #[true, false, false, false, false, false, false, false, false, false, false, false, false, false, false, false, false, false, false, false, false, false, false, false, false, false] rfl rfl (any_of HT_.out (by kernel_rfl)) (fun _ _ _ h => h) (Or.inl ⟨by rfl, ?_⟩) ?_ ?_
                    rotate_left
                    · intro w'
                      go_simp
                      with_reducible rfl
                    rotate_left
                    · simp only [Act.put, List.setIfInBounds_toArray, List.set_cons_zero, List.set_cons_succ, i64_w, i32_w]
                      rfl
                    refine pure_ (i := 1) (N := some 38) (v := ?_) (a' := ?_) #[true, true, false, false, false, false, false, false, false, false, false, false, false, false, false, false, false, false, false, false, false, false, false, false, false, false] rfl rfl (any_of HT_.out (by kernel_rfl)) (fun _ _ _ h => h) (Or.inl ⟨by rfl, ?_⟩) ?_ ?_
                    rotate_left
                    · intro w'
                      go_simp
                      with_reducible rfl
                    rotate_left
                    · simp only [Act.put, List.setIfInBounds_toArray, List.set_cons_zero, List.set_cons_succ, i64_w, i32_w]
                      rfl
                    refine pure_ (i := 3) (N := some 40) (v := ?_) (a' := ?_) #[true, true, false, true, false, false, false, false, false, false, false, false, false, false, false, false, false, false, false, false, false, false, false, false, false, false] rfl rfl (any_of HT_.out (by kernel_rfl)) (fun _ _ _ h => h) (Or.inl ⟨by rfl, ?_⟩) ?_ ?_
                    rotate_left
                    · intro w'
                      go_simp
                      with_reducible rfl
                    rotate_left
                    · simp only [Act.put, List.setIfInBounds_toArray, List.set_cons_zero, List.set_cons_succ, i64_w, i32_w]
                      rfl
                    refine take_ (i := 2) (N := some 39) (v := ?_) (a' := ?_) #[true, true, true, true, false, false, false, false, false, false, false, false, false, false, false, false, false, false, false, false, false, false, false, false, false, false] rfl rfl (take_ofW HT_.out HW_.out (by kernel_rfl)) (fun _ _ _ h => h) (Or.inl ⟨by rfl, ?_⟩) hHeld ?_ ?_
                    rotate_left
                    · rintro w' ⟨s0, s1, s2, s3⟩
                      go_simp
                      with_reducible rfl
                    rotate_left
                    · simp only [Act.put, List.setIfInBounds_toArray, List.set_cons_zero, List.set_cons_succ, i64_w, i32_w]
                      rfl
                    refine take_ (i := 5) (N := some 42) (v := ?_) (a' := ?_) #[true, true, true, true, false, true, false, false, false, false, false, false, false, false, false, false, false, false, false, false, false, false, false, false, false, false] rfl rfl (take_ofW HT_.out HW_.out (by kernel_rfl)) (fun _ _ _ h => h) (Or.inl ⟨by rfl, ?_⟩) hHeld ?_ ?_
                    rotate_left
                    · rintro w' ⟨s0, s1, s2, s3⟩
                      go_simp
                      with_reducible rfl
                    rotate_left
                    · simp only [Act.put, List.setIfInBounds_toArray, List.set_cons_zero, List.set_cons_succ, i64_w, i32_w]
                      rfl
                    refine one_ (i := 4) (N := some 41) #[true, true, true, true, true, true, false, false, false, false, false, false, false, false, false, false, false, false, false, false, false, false, false, false, false, false] rfl rfl (one_of HT_.out (by kernel_rfl)) (by decide) (fun K hK => ?_)
                    refine goes_ Try.func20 (by kernel_rfl) rfl #[.agg #[.slice Ao45 t464.length co45, .slice Ao48 t467.length co48], .slice A2 l2.length c2] (by rfl) rfl rfl (by (try simp only [List.map_toArray, List.map_cons, List.map_nil]); first | done | rfl | (simp only [List.length_drop, List.length_take]; rfl)) ?_
                    with_reducible refine (disk_Crash.calls kj4 (fun k_ => ((some k_ ≠ (.slice Ao48 t467.length co48 : Value).ownBlock ∧ (k_ ≠ gb460 ∧ k_ ≠ gb470)) ∧ some k_ ≠ (v478 : Value).ownBlock)) _ _ t464 (fun k_ => ((some k_ ≠ (.slice Ao45 t464.length co45 : Value).ownBlock ∧ (k_ ≠ gb460 ∧ k_ ≠ gb470)) ∧ some k_ ≠ (v478 : Value).ownBlock)) _ _ t467 _ _ l2 t480 t483 _ ?side1 ?side2 ?side3 ?side4 A32.out).mono ?_
                    (case side1 => exact Kd.N_V (HO466.out))
                    (case side2 => exact Kd.N_V (HO469.out))
                    (case side3 => repeat (first | exact (Kd.C_below HR2.out HB.out) | (with_reducible refine Kd.C_alloc ?_ _) | (with_reducible refine Kd.C_drewN ?_ _) | (with_reducible refine Kd.C_drew ?_)))
                    (case side4 => exact HC2.out)
                    rintro e w54 ⟨v481, v484, rfl, ho0, ho1, hb⟩
                    refine ⟨_, rfl, ?_⟩
                    have n0_ := Aside0.mk (Kd.N_mono (Kd.N_told (Kd.N_told (Kd.N_old (by (with_reducible repeat (first | apply Kd.N_alloc | apply Kd.N_drewN | apply Kd.N_drew)); exact HO466.out) hb) (Kd.N_base ho0)) (Kd.N_base ho1)) (fun _ h_ => h_.1))
                    have n1_ := Aside0.mk (Kd.N_mono (Kd.N_told (Kd.N_told (Kd.N_old (by (with_reducible repeat (first | apply Kd.N_alloc | apply Kd.N_drewN | apply Kd.N_drew)); exact HO469.out) hb) (Kd.N_base ho0)) (Kd.N_base ho1)) (fun _ h_ => h_.1))
                    have n2_ := Aside0.mk (Kd.R_below (by (with_reducible repeat (first | apply Kd.R_alloc | apply Kd.R_drewN | apply Kd.R_drew)); exact HO479.out) hb)
                    have n3_ := Aside0.mk (Kd.N_lower (Kd.N_mono (ok' := fun k_ => some k_ ≠ (v484 : Value).ownBlock ∧ some k_ ≠ (v478 : Value).ownBlock ∧ k_ ≠ gb460 ∧ k_ ≠ gb470) ho0 (fun k_ hk_ => ⟨hk_.2, Or.elim hk_.1 (fun hs_ => Or.elim hs_ (fun hs_ => hs_.2) (fun hs_ => hs_.2)) (fun hn_ => (Kd.fresh' (Kd.R_lt (by (with_reducible repeat (first | apply Kd.R_alloc | apply Kd.R_drewN | apply Kd.R_drew)); exact HO479.out)) k_ hn_)), Or.elim hk_.1 (fun hs_ => Or.elim hs_ (fun hs_ => hs_.1.2.1) (fun hs_ => hs_.1.2.1)) (fun hn_ => (Kd.freshB (g := gb460) (o := .cells #[.slice A0_0 l0_0.length c0_0, .slice A0_1 l0_1.length c0_1] 25 (0, 0)) (by (with_reducible repeat (first | refine qN ?_ _ | refine qD ?_ | refine qA ?_ _)); exact BK460.out) k_ hn_)), Or.elim hk_.1 (fun hs_ => Or.elim hs_ (fun hs_ => hs_.1.2.2) (fun hs_ => hs_.1.2.2)) (fun hn_ => (Kd.freshB (g := gb470) (o := .cells #[.slice Ao45 t464.length co45, .slice Ao48 t467.length co48] 25 (0, 0)) (by (with_reducible repeat (first | refine qN ?_ _ | refine qD ?_ | refine qA ?_ _)); exact BK470.out) k_ hn_))⟩)) (below_size (by repeat (first | (with_reducible first | exact HB.out | apply pA | apply pN | apply pD | refine pS ?_ GE460.out | refine pS ?_ GE470.out) | exact HB.out))))
                    have n4_ := Aside0.mk (Kd.N_lower (Kd.N_mono (ok' := fun k_ => some k_ ≠ (v481 : Value).ownBlock ∧ some k_ ≠ (v478 : Value).ownBlock ∧ k_ ≠ gb460 ∧ k_ ≠ gb470) ho1 (fun k_ hk_ => ⟨hk_.2, Or.elim hk_.1 (fun hs_ => Or.elim hs_ (fun hs_ => hs_.2) (fun hs_ => hs_.2)) (fun hn_ => (Kd.fresh' (Kd.R_lt (by (with_reducible repeat (first | apply Kd.R_alloc | apply Kd.R_drewN | apply Kd.R_drew)); exact HO479.out)) k_ hn_)), Or.elim hk_.1 (fun hs_ => Or.elim hs_ (fun hs_ => hs_.1.2.1) (fun hs_ => hs_.1.2.1)) (fun hn_ => (Kd.freshB (g := gb460) (o := .cells #[.slice A0_0 l0_0.length c0_0, .slice A0_1 l0_1.length c0_1] 25 (0, 0)) (by (with_reducible repeat (first | refine qN ?_ _ | refine qD ?_ | refine qA ?_ _)); exact BK460.out) k_ hn_)), Or.elim hk_.1 (fun hs_ => Or.elim hs_ (fun hs_ => hs_.1.2.2) (fun hs_ => hs_.1.2.2)) (fun hn_ => (Kd.freshB (g := gb470) (o := .cells #[.slice Ao45 t464.length co45, .slice Ao48 t467.length co48] 25 (0, 0)) (by (with_reducible repeat (first | refine qN ?_ _ | refine qD ?_ | refine qA ?_ _)); exact BK470.out) k_ hn_))⟩)) (below_size (by repeat (first | (with_reducible first | exact HB.out | apply pA | apply pN | apply pD | refine pS ?_ GE460.out | refine pS ?_ GE470.out) | exact HB.out))))
                    have n5_ := Aside0.mk (blk_below (g := gb460) (o := .cells #[.slice A0_0 l0_0.length c0_0, .slice A0_1 l0_1.length c0_1] 25 (0, 0)) (by (with_reducible repeat (first | refine qN ?_ _ | refine qD ?_ | refine qA ?_ _)); exact BK460.out) hb)
                    have n6_ := Aside0.mk (blk_below (g := gb470) (o := .cells #[.slice Ao45 t464.length co45, .slice Ao48 t467.length co48] 25 (0, 0)) (by (with_reducible repeat (first | refine qN ?_ _ | refine qD ?_ | refine qA ?_ _)); exact BK470.out) hb)
                    have n7_ := Aside0.mk (below_step (by repeat (first | (with_reducible first | exact HB.out | apply pA | apply pN | apply pD | refine pS ?_ GE460.out | refine pS ?_ GE470.out) | exact HB.out)) hb)
                    clear HO466
                    clear HO469
                    clear HO479
                    clear BK460
                    clear BK470
                    clear HB
                    have HO466 := n0_
                    have HO469 := n1_
                    have HO479 := n2_
                    have HO482 := n3_
                    have HO485 := n4_
                    have BK460 := n5_
                    have BK470 := n6_
                    have HB := n7_
                    clear n0_ n1_ n2_ n3_ n4_ n5_ n6_ n7_
                    (try clear hb)
                    (try clear hb2)
                    (try clear hk)
                    (try clear hi)
                    (try clear ho0)
                    (try clear ho1)
                    obtain ⟨Ao55, co55, eo55⟩ := Kd.N_slice HO482.out
                    (first | subst eo55 | (injection eo55 with f1_ f2_ f3_; have f4_ := f1_.symm; have f5_ := f3_.symm; clear f1_ f2_ f3_; subst f4_; subst f5_))
                    obtain ⟨Ao56, co56, eo56⟩ := Kd.N_slice HO485.out
                    (first | subst eo56 | (injection eo56 with f1_ f2_ f3_; have f4_ := f1_.symm; have f5_ := f3_.symm; clear f1_ f2_ f3_; subst f4_; subst f5_))
                    refine hK.out _ _ ⟨(blk_cell BK470.out 0).trans rfl, (blk_cell BK470.out 1).trans rfl, (blk_cell BK460.out 0).trans rfl, (blk_cell BK460.out 1).trans rfl⟩ (fun hHeld => ?_)
                    clear hK K
                    refine norm_ (a' := ?_) ?_ ?_
                    rotate_left
                    · show Act.put _ (some 41) _ = _
                      simp only [Act.put, List.setIfInBounds_toArray, List.set_cons_zero, List.set_cons_succ, i64_w, i32_w]
                      rfl
                    refine one_ (i := 6) (N := some 43) #[true, true, true, true, true, true, true, false, false, false, false, false, false, false, false, false, false, false, false, false, false, false, false, false, false, false] rfl rfl (one_of HT_.out (by kernel_rfl)) (by decide) (fun K hK => ?_)
                    refine goes_ Try.func16 (by kernel_rfl) rfl #[.agg #[.slice Ao55 t480.length co55, .slice Ao56 t483.length co56], .agg #[.slice Ao45 t464.length co45, .slice Ao48 t467.length co48]] (by rfl) rfl rfl (by (try simp only [List.map_toArray, List.map_cons, List.map_nil]); first | done | rfl | (simp only [List.length_drop, List.length_take]; rfl)) ?_
                    with_reducible refine (portreeveref03_Same.calls kj4 _ _ t480 _ _ t483 _ _ t464 _ _ t467 true _ ?side1 ?side2 ?side3 ?side4 ?side5 ?side6 ?side7 ?side8 A33.out).mono ?_
                    (case side1 => repeat (first | exact (Kd.N_reads' HO482.out).2.2 | (with_reducible refine Kd.C_alloc ?_ _) | (with_reducible refine Kd.C_drewN ?_ _) | (with_reducible refine Kd.C_drew ?_)))
                    (case side2 => exact (Kd.N_reads' HO482.out).2.1)
                    (case side3 => repeat (first | exact (Kd.N_reads' HO485.out).2.2 | (with_reducible refine Kd.C_alloc ?_ _) | (with_reducible refine Kd.C_drewN ?_ _) | (with_reducible refine Kd.C_drew ?_)))
                    (case side4 => exact (Kd.N_reads' HO485.out).2.1)
                    (case side5 => repeat (first | exact (Kd.N_reads' HO466.out).2.2 | (with_reducible refine Kd.C_alloc ?_ _) | (with_reducible refine Kd.C_drewN ?_ _) | (with_reducible refine Kd.C_drew ?_)))
                    (case side6 => exact (Kd.N_reads' HO466.out).2.1)
                    (case side7 => repeat (first | exact (Kd.N_reads' HO469.out).2.2 | (with_reducible refine Kd.C_alloc ?_ _) | (with_reducible refine Kd.C_drewN ?_ _) | (with_reducible refine Kd.C_drew ?_)))
                    (case side8 => exact (Kd.N_reads' HO469.out).2.1)
                    rintro e w57 ⟨rfl, hb⟩
                    refine ⟨_, rfl, ?_⟩
                    have n0_ := Aside0.mk (Kd.N_below (by (with_reducible repeat (first | apply Kd.N_alloc | apply Kd.N_drewN | apply Kd.N_drew)); exact HO466.out) hb)
                    have n1_ := Aside0.mk (Kd.N_below (by (with_reducible repeat (first | apply Kd.N_alloc | apply Kd.N_drewN | apply Kd.N_drew)); exact HO469.out) hb)
                    have n2_ := Aside0.mk (Kd.R_below (by (with_reducible repeat (first | apply Kd.R_alloc | apply Kd.R_drewN | apply Kd.R_drew)); exact HO479.out) hb)
                    have n3_ := Aside0.mk (Kd.N_below (by (with_reducible repeat (first | apply Kd.N_alloc | apply Kd.N_drewN | apply Kd.N_drew)); exact HO482.out) hb)
                    have n4_ := Aside0.mk (Kd.N_below (by (with_reducible repeat (first | apply Kd.N_alloc | apply Kd.N_drewN | apply Kd.N_drew)); exact HO485.out) hb)
                    have n5_ := Aside0.mk (blk_below (g := gb460) (o := .cells #[.slice A0_0 l0_0.length c0_0, .slice A0_1 l0_1.length c0_1] 25 (0, 0)) (by (with_reducible repeat (first | refine qN ?_ _ | refine qD ?_ | refine qA ?_ _)); exact BK460.out) hb)
                    have n6_ := Aside0.mk (blk_below (g := gb470) (o := .cells #[.slice Ao45 t464.length co45, .slice Ao48 t467.length co48] 25 (0, 0)) (by (with_reducible repeat (first | refine qN ?_ _ | refine qD ?_ | refine qA ?_ _)); exact BK470.out) hb)
                    have n7_ := Aside0.mk (below_step (by repeat (first | (with_reducible first | exact HB.out | apply pA | apply pN | apply pD | refine pS ?_ GE460.out | refine pS ?_ GE470.out) | exact HB.out)) hb)
                    clear HO466
                    clear HO469
                    clear HO479
                    clear HO482
                    clear HO485
                    clear BK460
                    clear BK470
                    clear HB
                    have HO466 := n0_
                    have HO469 := n1_
                    have HO479 := n2_
                    have HO482 := n3_
                    have HO485 := n4_
                    have BK460 := n5_
                    have BK470 := n6_
                    have HB := n7_
                    clear n0_ n1_ n2_ n3_ n4_ n5_ n6_ n7_
                    (try clear hb)
                    (try clear hb2)
                    (try clear hk)
                    (try clear hi)
                    refine hK.out _ _ ⟨(blk_cell BK470.out 0).trans rfl, (blk_cell BK470.out 1).trans rfl, (blk_cell BK460.out 0).trans rfl, (blk_cell BK460.out 1).trans rfl⟩ (fun hHeld => ?_)
                    clear hK K
                    refine norm_ (a' := ?_) ?_ ?_
                    rotate_left
                    · show Act.put _ (some 43) _ = _
                      simp only [Act.put, List.setIfInBounds_toArray, List.set_cons_zero, List.set_cons_succ, i64_w, i32_w]
                      rfl
                    refine pure_ (i := 7) (N := some 44) (v := ?_) (a' := ?_) #[true, true, true, true, true, true, true, true, false, false, false, false, false, false, false, false, false, false, false, false, false, false, false, false, false, false] rfl rfl (any_of HT_.out (by kernel_rfl)) (fun _ _ _ h => h) (Or.inl ⟨by rfl, ?_⟩) ?_ ?_
                    rotate_left
                    · intro w'
                      go_simp
                      with_reducible rfl
                    rotate_left
                    · simp only [Act.put, List.setIfInBounds_toArray, List.set_cons_zero, List.set_cons_succ, i64_w, i32_w]
                      rfl
                    refine pure_ (i := 8) (N := some 45) (v := ?_) (a' := ?_) #[true, true, true, true, true, true, true, true, true, false, false, false, false, false, false, false, false, false, false, false, false, false, false, false, false, false] rfl rfl (any_of HT_.out (by kernel_rfl)) (fun _ _ _ h => h) (Or.inl ⟨by rfl, ?_⟩) ?_ ?_
                    rotate_left
                    · intro w'
                      go_simp
                      with_reducible rfl
                    rotate_left
                    · simp only [Act.put, List.setIfInBounds_toArray, List.set_cons_zero, List.set_cons_succ, i64_w, i32_w]
                      rfl
                    refine take_ (i := 9) (N := some 46) (v := ?_) (a' := ?_) #[true, true, true, true, true, true, true, true, true, true, false, false, false, false, false, false, false, false, false, false, false, false, false, false, false, false] rfl rfl (take_ofW HT_.out HW_.out (by kernel_rfl)) (fun _ _ _ h => h) (Or.inl ⟨by rfl, ?_⟩) hHeld ?_ ?_
                    rotate_left
                    · rintro w' ⟨s0, s1, s2, s3⟩
                      go_simp
                      with_reducible rfl
                    rotate_left
                    · simp only [Act.put, List.setIfInBounds_toArray, List.set_cons_zero, List.set_cons_succ, i64_w, i32_w]
                      rfl
                    refine take_ (i := 11) (N := some 48) (v := ?_) (a' := ?_) #[true, true, true, true, true, true, true, true, true, true, false, true, false, false, false, false, false, false, false, false, false, false, false, false, false, false] rfl rfl (take_ofW HT_.out HW_.out (by kernel_rfl)) (fun _ _ _ h => h) (Or.inl ⟨by rfl, ?_⟩) hHeld ?_ ?_
                    rotate_left
                    · rintro w' ⟨s0, s1, s2, s3⟩
                      go_simp
                      with_reducible rfl
                    rotate_left
                    · simp only [Act.put, List.setIfInBounds_toArray, List.set_cons_zero, List.set_cons_succ, i64_w, i32_w]
                      rfl
                    refine one_ (i := 10) (N := some 47) #[true, true, true, true, true, true, true, true, true, true, true, true, false, false, false, false, false, false, false, false, false, false, false, false, false, false] rfl rfl (one_of HT_.out (by kernel_rfl)) (by decide) (fun K hK => ?_)
                    refine goes_ Try.func18 (by kernel_rfl) rfl #[.agg #[.slice Ao45 t464.length co45, .slice Ao48 t467.length co48]] (by rfl) rfl rfl (by (try simp only [List.map_toArray, List.map_cons, List.map_nil]); first | done | rfl | (simp only [List.length_drop, List.length_take]; rfl)) ?_
                    with_reducible refine (disk_Flush.calls kj4 (fun k_ => ((((some k_ ≠ (.slice Ao48 t467.length co48 : Value).ownBlock ∧ (k_ ≠ gb460 ∧ k_ ≠ gb470)) ∧ some k_ ≠ (v478 : Value).ownBlock) ∧ some k_ ≠ (.slice Ao55 t480.length co55 : Value).ownBlock) ∧ some k_ ≠ (.slice Ao56 t483.length co56 : Value).ownBlock)) _ _ t464 _ _ t467 t487 t490 _ ?side1 ?side2 ?side3 A35.out).mono ?_
                    (case side1 => exact Kd.N_V (HO466.out))
                    (case side2 => repeat (first | exact (Kd.N_reads' HO469.out).2.2 | (with_reducible refine Kd.C_alloc ?_ _) | (with_reducible refine Kd.C_drewN ?_ _) | (with_reducible refine Kd.C_drew ?_)))
                    (case side3 => exact (Kd.N_reads' HO469.out).2.1)
                    rintro e w58 ⟨v488, v491, rfl, ho0, ho1, hb⟩
                    refine ⟨_, rfl, ?_⟩
                    have n0_ := Aside0.mk (Kd.N_mono (Kd.N_told (Kd.N_told (Kd.N_old (by (with_reducible repeat (first | apply Kd.N_alloc | apply Kd.N_drewN | apply Kd.N_drew)); exact HO466.out) hb) (Kd.N_base ho0)) (Kd.N_base ho1)) (fun _ h_ => h_.1))
                    have n1_ := Aside0.mk (Kd.N_mono (Kd.N_told (Kd.N_told (Kd.N_old (by (with_reducible repeat (first | apply Kd.N_alloc | apply Kd.N_drewN | apply Kd.N_drew)); exact HO469.out) hb) (Kd.N_base ho0)) (Kd.N_base ho1)) (fun _ h_ => h_.1))
                    have n2_ := Aside0.mk (Kd.R_below (by (with_reducible repeat (first | apply Kd.R_alloc | apply Kd.R_drewN | apply Kd.R_drew)); exact HO479.out) hb)
                    have n3_ := Aside0.mk (Kd.N_mono (Kd.N_told (Kd.N_told (Kd.N_old (by (with_reducible repeat (first | apply Kd.N_alloc | apply Kd.N_drewN | apply Kd.N_drew)); exact HO482.out) hb) (Kd.N_base ho0)) (Kd.N_base ho1)) (fun _ h_ => h_.1))
                    have n4_ := Aside0.mk (Kd.N_mono (Kd.N_told (Kd.N_told (Kd.N_old (by (with_reducible repeat (first | apply Kd.N_alloc | apply Kd.N_drewN | apply Kd.N_drew)); exact HO485.out) hb) (Kd.N_base ho0)) (Kd.N_base ho1)) (fun _ h_ => h_.1))
                    have n5_ := Aside0.mk (Kd.N_lower (Kd.N_mono (ok' := fun k_ => some k_ ≠ (v491 : Value).ownBlock ∧ some k_ ≠ (.slice Ao48 t467.length co48 : Value).ownBlock ∧ some k_ ≠ (v478 : Value).ownBlock ∧ some k_ ≠ (.slice Ao55 t480.length co55 : Value).ownBlock ∧ some k_ ≠ (.slice Ao56 t483.length co56 : Value).ownBlock ∧ k_ ≠ gb460 ∧ k_ ≠ gb470) ho0 (fun k_ hk_ => ⟨hk_.2, Or.elim hk_.1 (fun hs_ => hs_.1.1.1.1) (fun hn_ => (Kd.fresh' (Kd.N_lt (by (with_reducible repeat (first | apply Kd.N_alloc | apply Kd.N_drewN | apply Kd.N_drew)); exact HO469.out)) k_ hn_)), Or.elim hk_.1 (fun hs_ => hs_.1.1.2) (fun hn_ => (Kd.fresh' (Kd.R_lt (by (with_reducible repeat (first | apply Kd.R_alloc | apply Kd.R_drewN | apply Kd.R_drew)); exact HO479.out)) k_ hn_)), Or.elim hk_.1 (fun hs_ => hs_.1.2) (fun hn_ => (Kd.fresh' (Kd.N_lt (by (with_reducible repeat (first | apply Kd.N_alloc | apply Kd.N_drewN | apply Kd.N_drew)); exact HO482.out)) k_ hn_)), Or.elim hk_.1 (fun hs_ => hs_.2) (fun hn_ => (Kd.fresh' (Kd.N_lt (by (with_reducible repeat (first | apply Kd.N_alloc | apply Kd.N_drewN | apply Kd.N_drew)); exact HO485.out)) k_ hn_)), Or.elim hk_.1 (fun hs_ => hs_.1.1.1.2.1) (fun hn_ => (Kd.freshB (g := gb460) (o := .cells #[.slice A0_0 l0_0.length c0_0, .slice A0_1 l0_1.length c0_1] 25 (0, 0)) (by (with_reducible repeat (first | refine qN ?_ _ | refine qD ?_ | refine qA ?_ _)); exact BK460.out) k_ hn_)), Or.elim hk_.1 (fun hs_ => hs_.1.1.1.2.2) (fun hn_ => (Kd.freshB (g := gb470) (o := .cells #[.slice Ao45 t464.length co45, .slice Ao48 t467.length co48] 25 (0, 0)) (by (with_reducible repeat (first | refine qN ?_ _ | refine qD ?_ | refine qA ?_ _)); exact BK470.out) k_ hn_))⟩)) (below_size (by repeat (first | (with_reducible first | exact HB.out | apply pA | apply pN | apply pD | refine pS ?_ GE460.out | refine pS ?_ GE470.out) | exact HB.out))))
                    have n6_ := Aside0.mk (Kd.N_lower (Kd.N_mono (ok' := fun k_ => some k_ ≠ (v488 : Value).ownBlock ∧ some k_ ≠ (.slice Ao48 t467.length co48 : Value).ownBlock ∧ some k_ ≠ (v478 : Value).ownBlock ∧ some k_ ≠ (.slice Ao55 t480.length co55 : Value).ownBlock ∧ some k_ ≠ (.slice Ao56 t483.length co56 : Value).ownBlock ∧ k_ ≠ gb460 ∧ k_ ≠ gb470) ho1 (fun k_ hk_ => ⟨hk_.2, Or.elim hk_.1 (fun hs_ => hs_.1.1.1.1) (fun hn_ => (Kd.fresh' (Kd.N_lt (by (with_reducible repeat (first | apply Kd.N_alloc | apply Kd.N_drewN | apply Kd.N_drew)); exact HO469.out)) k_ hn_)), Or.elim hk_.1 (fun hs_ => hs_.1.1.2) (fun hn_ => (Kd.fresh' (Kd.R_lt (by (with_reducible repeat (first | apply Kd.R_alloc | apply Kd.R_drewN | apply Kd.R_drew)); exact HO479.out)) k_ hn_)), Or.elim hk_.1 (fun hs_ => hs_.1.2) (fun hn_ => (Kd.fresh' (Kd.N_lt (by (with_reducible repeat (first | apply Kd.N_alloc | apply Kd.N_drewN | apply Kd.N_drew)); exact HO482.out)) k_ hn_)), Or.elim hk_.1 (fun hs_ => hs_.2) (fun hn_ => (Kd.fresh' (Kd.N_lt (by (with_reducible repeat (first | apply Kd.N_alloc | apply Kd.N_drewN | apply Kd.N_drew)); exact HO485.out)) k_ hn_)), Or.elim hk_.1 (fun hs_ => hs_.1.1.1.2.1) (fun hn_ => (Kd.freshB (g := gb460) (o := .cells #[.slice A0_0 l0_0.length c0_0, .slice A0_1 l0_1.length c0_1] 25 (0, 0)) (by (with_reducible repeat (first | refine qN ?_ _ | refine qD ?_ | refine qA ?_ _)); exact BK460.out) k_ hn_)), Or.elim hk_.1 (fun hs_ => hs_.1.1.1.2.2) (fun hn_ => (Kd.freshB (g := gb470) (o := .cells #[.slice Ao45 t464.length co45, .slice Ao48 t467.length co48] 25 (0, 0)) (by (with_reducible repeat (first | refine qN ?_ _ | refine qD ?_ | refine qA ?_ _)); exact BK470.out) k_ hn_))⟩)) (below_size (by repeat (first | (with_reducible first | exact HB.out | apply pA | apply pN | apply pD | refine pS ?_ GE460.out | refine pS ?_ GE470.out) | exact HB.out))))
                    have n7_ := Aside0.mk (blk_below (g := gb460) (o := .cells #[.slice A0_0 l0_0.length c0_0, .slice A0_1 l0_1.length c0_1] 25 (0, 0)) (by (with_reducible repeat (first | refine qN ?_ _ | refine qD ?_ | refine qA ?_ _)); exact BK460.out) hb)
                    have n8_ := Aside0.mk (blk_below (g := gb470) (o := .cells #[.slice Ao45 t464.length co45, .slice Ao48 t467.length co48] 25 (0, 0)) (by (with_reducible repeat (first | refine qN ?_ _ | refine qD ?_ | refine qA ?_ _)); exact BK470.out) hb)
                    have n9_ := Aside0.mk (below_step (by repeat (first | (with_reducible first | exact HB.out | apply pA | apply pN | apply pD | refine pS ?_ GE460.out | refine pS ?_ GE470.out) | exact HB.out)) hb)
                    clear HO466
                    clear HO469
                    clear HO479
                    clear HO482
                    clear HO485
                    clear BK460
                    clear BK470
                    clear HB
                    have HO466 := n0_
                    have HO469 := n1_
                    have HO479 := n2_
                    have HO482 := n3_
                    have HO485 := n4_
                    have HO489 := n5_
                    have HO492 := n6_
                    have BK460 := n7_
                    have BK470 := n8_
                    have HB := n9_
                    clear n0_ n1_ n2_ n3_ n4_ n5_ n6_ n7_ n8_ n9_
                    (try clear hb)
                    (try clear hb2)
                    (try clear hk)
                    (try clear hi)
                    (try clear ho0)
                    (try clear ho1)
                    obtain ⟨Ao59, co59, eo59⟩ := Kd.N_slice HO489.out
                    (first | subst eo59 | (injection eo59 with f1_ f2_ f3_; have f4_ := f1_.symm; have f5_ := f3_.symm; clear f1_ f2_ f3_; subst f4_; subst f5_))
                    obtain ⟨Ao60, co60, eo60⟩ := Kd.N_slice HO492.out
                    (first | subst eo60 | (injection eo60 with f1_ f2_ f3_; have f4_ := f1_.symm; have f5_ := f3_.symm; clear f1_ f2_ f3_; subst f4_; subst f5_))
                    refine hK.out _ _ ⟨(blk_cell BK470.out 0).trans rfl, (blk_cell BK470.out 1).trans rfl, (blk_cell BK460.out 0).trans rfl, (blk_cell BK460.out 1).trans rfl⟩ (fun hHeld => ?_)
                    clear hK K
                    refine norm_ (a' := ?_) ?_ ?_
                    rotate_left
                    · show Act.put _ (some 47) _ = _
                      simp only [Act.put, List.setIfInBounds_toArray, List.set_cons_zero, List.set_cons_succ, i64_w, i32_w]
                      rfl
                    refine one_ (i := 12) (N := some 49) #[true, true, true, true, true, true, true, true, true, true, true, true, true, false, false, false, false, false, false, false, false, false, false, false, false, false] rfl rfl (one_of HT_.out (by kernel_rfl)) (by decide) (fun K hK => ?_)
                    refine goes_ Try.func16 (by kernel_rfl) rfl #[.agg #[.slice Ao59 t487.length co59, .slice Ao60 t490.length co60], .agg #[.slice Ao45 t464.length co45, .slice Ao48 t467.length co48]] (by rfl) rfl rfl (by (try simp only [List.map_toArray, List.map_cons, List.map_nil]); first | done | rfl | (simp only [List.length_drop, List.length_take]; rfl)) ?_
                    with_reducible refine (portreeveref03_Same.calls kj4 _ _ t487 _ _ t490 _ _ t464 _ _ t467 true _ ?side1 ?side2 ?side3 ?side4 ?side5 ?side6 ?side7 ?side8 A36.out).mono ?_
                    (case side1 => repeat (first | exact (Kd.N_reads' HO489.out).2.2 | (with_reducible refine Kd.C_alloc ?_ _) | (with_reducible refine Kd.C_drewN ?_ _) | (with_reducible refine Kd.C_drew ?_)))
                    (case side2 => exact (Kd.N_reads' HO489.out).2.1)
                    (case side3 => repeat (first | exact (Kd.N_reads' HO492.out).2.2 | (with_reducible refine Kd.C_alloc ?_ _) | (with_reducible refine Kd.C_drewN ?_ _) | (with_reducible refine Kd.C_drew ?_)))
                    (case side4 => exact (Kd.N_reads' HO492.out).2.1)
                    (case side5 => repeat (first | exact (Kd.N_reads' HO466.out).2.2 | (with_reducible refine Kd.C_alloc ?_ _) | (with_reducible refine Kd.C_drewN ?_ _) | (with_reducible refine Kd.C_drew ?_)))
                    (case side6 => exact (Kd.N_reads' HO466.out).2.1)
                    (case side7 => repeat (first | exact (Kd.N_reads' HO469.out).2.2 | (with_reducible refine Kd.C_alloc ?_ _) | (with_reducible refine Kd.C_drewN ?_ _) | (with_reducible refine Kd.C_drew ?_)))
                    (case side8 => exact (Kd.N_reads' HO469.out).2.1)
                    rintro e w61 ⟨rfl, hb⟩
                    refine ⟨_, rfl, ?_⟩
                    have n0_ := Aside0.mk (Kd.N_below (by (with_reducible repeat (first | apply Kd.N_alloc | apply Kd.N_drewN | apply Kd.N_drew)); exact HO466.out) hb)
                    have n1_ := Aside0.mk (Kd.N_below (by (with_reducible repeat (first | apply Kd.N_alloc | apply Kd.N_drewN | apply Kd.N_drew)); exact HO469.out) hb)
                    have n2_ := Aside0.mk (Kd.R_below (by (with_reducible repeat (first | apply Kd.R_alloc | apply Kd.R_drewN | apply Kd.R_drew)); exact HO479.out) hb)
                    have n3_ := Aside0.mk (Kd.N_below (by (with_reducible repeat (first | apply Kd.N_alloc | apply Kd.N_drewN | apply Kd.N_drew)); exact HO482.out) hb)
                    have n4_ := Aside0.mk (Kd.N_below (by (with_reducible repeat (first | apply Kd.N_alloc | apply Kd.N_drewN | apply Kd.N_drew)); exact HO485.out) hb)
                    have n5_ := Aside0.mk (Kd.N_below (by (with_reducible repeat (first | apply Kd.N_alloc | apply Kd.N_drewN | apply Kd.N_drew)); exact HO489.out) hb)
                    have n6_ := Aside0.mk (Kd.N_below (by (with_reducible repeat (first | apply Kd.N_alloc | apply Kd.N_drewN | apply Kd.N_drew)); exact HO492.out) hb)
                    have n7_ := Aside0.mk (blk_below (g := gb460) (o := .cells #[.slice A0_0 l0_0.length c0_0, .slice A0_1 l0_1.length c0_1] 25 (0, 0)) (by (with_reducible repeat (first | refine qN ?_ _ | refine qD ?_ | refine qA ?_ _)); exact BK460.out) hb)
                    have n8_ := Aside0.mk (blk_below (g := gb470) (o := .cells #[.slice Ao45 t464.length co45, .slice Ao48 t467.length co48] 25 (0, 0)) (by (with_reducible repeat (first | refine qN ?_ _ | refine qD ?_ | refine qA ?_ _)); exact BK470.out) hb)
                    have n9_ := Aside0.mk (below_step (by repeat (first | (with_reducible first | exact HB.out | apply pA | apply pN | apply pD | refine pS ?_ GE460.out | refine pS ?_ GE470.out) | exact HB.out)) hb)
                    clear HO466
                    clear HO469
                    clear HO479
                    clear HO482
                    clear HO485
                    clear HO489
                    clear HO492
                    clear BK460
                    clear BK470
                    clear HB
                    have HO466 := n0_
                    have HO469 := n1_
                    have HO479 := n2_
                    have HO482 := n3_
                    have HO485 := n4_
                    have HO489 := n5_
                    have HO492 := n6_
                    have BK460 := n7_
                    have BK470 := n8_
                    have HB := n9_
                    clear n0_ n1_ n2_ n3_ n4_ n5_ n6_ n7_ n8_ n9_
                    (try clear hb)
                    (try clear hb2)
                    (try clear hk)
                    (try clear hi)
                    obtain ⟨Ao62, co62, eo62⟩ := Kd.R_slice HO479.out
                    (first | subst eo62 | (injection eo62 with f1_ f2_ f3_; have f4_ := f1_.symm; have f5_ := f3_.symm; clear f1_ f2_ f3_; subst f4_; subst f5_))
                    refine hK.out _ _ ⟨(blk_cell BK470.out 0).trans rfl, (blk_cell BK470.out 1).trans rfl, (blk_cell BK460.out 0).trans rfl, (blk_cell BK460.out 1).trans rfl⟩ (fun hHeld => ?_)
                    clear hK K
                    refine norm_ (a' := ?_) ?_ ?_
                    rotate_left
                    · show Act.put _ (some 49) _ = _
                      simp only [Act.put, List.setIfInBounds_toArray, List.set_cons_zero, List.set_cons_succ, i64_w, i32_w]
                      rfl
                    refine pure_ (i := 13) (N := some 50) (v := ?_) (a' := ?_) #[true, true, true, true, true, true, true, true, true, true, true, true, true, true, false, false, false, false, false, false, false, false, false, false, false, false] rfl rfl (any_of HT_.out (by kernel_rfl)) (fun _ _ _ h => h) (Or.inl ⟨by rfl, ?_⟩) ?_ ?_
                    rotate_left
                    · intro w'
                      go_simp
                      with_reducible rfl
                    rotate_left
                    · simp only [Act.put, List.setIfInBounds_toArray, List.set_cons_zero, List.set_cons_succ, i64_w, i32_w]
                      rfl
                    refine pure_ (i := 14) (N := some 51) (v := ?_) (a' := ?_) #[true, true, true, true, true, true, true, true, true, true, true, true, true, true, true, false, false, false, false, false, false, false, false, false, false, false] rfl rfl (any_of HT_.out (by kernel_rfl)) (fun _ _ _ h => h) (Or.inl ⟨by rfl, ?_⟩) ?_ ?_
                    rotate_left
                    · intro w'
                      go_simp
                      with_reducible rfl
                    rotate_left
                    · simp only [Act.put, List.setIfInBounds_toArray, List.set_cons_zero, List.set_cons_succ, i64_w, i32_w]
                      rfl
                    refine pure_ (i := 16) (N := some 53) (v := ?_) (a' := ?_) #[true, true, true, true, true, true, true, true, true, true, true, true, true, true, true, false, true, false, false, false, false, false, false, false, false, false] rfl rfl (any_of HT_.out (by kernel_rfl)) (fun _ _ _ h => h) (Or.inl ⟨by rfl, ?_⟩) ?_ ?_
                    rotate_left
                    · intro w'
                      go_simp
                      with_reducible rfl
                    rotate_left
                    · simp only [Act.put, List.setIfInBounds_toArray, List.set_cons_zero, List.set_cons_succ, i64_w, i32_w]
                      rfl
                    refine take_ (i := 15) (N := some 52) (v := ?_) (a' := ?_) #[true, true, true, true, true, true, true, true, true, true, true, true, true, true, true, true, true, false, false, false, false, false, false, false, false, false] rfl rfl (take_ofW HT_.out HW_.out (by kernel_rfl)) (fun _ _ _ h => h) (Or.inl ⟨by rfl, ?_⟩) hHeld ?_ ?_
                    rotate_left
                    · rintro w' ⟨s0, s1, s2, s3⟩
                      go_simp
                      with_reducible rfl
                    rotate_left
                    · simp only [Act.put, List.setIfInBounds_toArray, List.set_cons_zero, List.set_cons_succ, i64_w, i32_w]
                      rfl
                    refine take_ (i := 18) (N := some 55) (v := ?_) (a' := ?_) #[true, true, true, true, true, true, true, true, true, true, true, true, true, true, true, true, true, false, true, false, false, false, false, false, false, false] rfl rfl (take_ofW HT_.out HW_.out (by kernel_rfl)) (fun _ _ _ h => h) (Or.inl ⟨by rfl, ?_⟩) hHeld ?_ ?_
                    rotate_left
                    · rintro w' ⟨s0, s1, s2, s3⟩
                      go_simp
                      with_reducible rfl
                    rotate_left
                    · simp only [Act.put, List.setIfInBounds_toArray, List.set_cons_zero, List.set_cons_succ, i64_w, i32_w]
                      rfl
                    refine one_ (i := 17) (N := some 54) #[true, true, true, true, true, true, true, true, true, true, true, true, true, true, true, true, true, true, true, false, false, false, false, false, false, false] rfl rfl (one_of HT_.out (by kernel_rfl)) (by decide) (fun K hK => ?_)
                    refine goes_ Try.func20 (by kernel_rfl) rfl #[.agg #[.slice A0_0 l0_0.length c0_0, .slice A0_1 l0_1.length c0_1], .slice Ao62 y477.length co62] (by rfl) rfl rfl (by (try simp only [List.map_toArray, List.map_cons, List.map_nil]); first | done | rfl | (simp only [List.length_drop, List.length_take]; rfl)) ?_
                    with_reducible refine (disk_Crash.calls kj4 (fun k_ => k_ < w.heap.size) _ _ l0_0 (fun k_ => k_ < w.heap.size) _ _ l0_1 _ _ y477 t494 t497 _ ?side1 ?side2 ?side3 ?side4 A38.out).mono ?_
                    (case side1 => exact Kd.V_mk HC0_0.out (Kd.F_below (Kd.C_F (Kd.heap_slice 5 (Kd.heap_int .u8)) HR0_0.out) (by repeat (first | (with_reducible first | exact HB.out | apply pA | apply pN | apply pD | refine pS ?_ GE460.out | refine pS ?_ GE470.out) | exact HB.out))))
                    (case side2 => exact Kd.V_mk HC0_1.out (Kd.F_below (Kd.C_F k47_heap HR0_1.out) (by repeat (first | (with_reducible first | exact HB.out | apply pA | apply pN | apply pD | refine pS ?_ GE460.out | refine pS ?_ GE470.out) | exact HB.out))))
                    (case side3 => repeat (first | exact (Kd.R_reads' HO479.out).2.2 | (with_reducible refine Kd.C_alloc ?_ _) | (with_reducible refine Kd.C_drewN ?_ _) | (with_reducible refine Kd.C_drew ?_)))
                    (case side4 => exact (Kd.R_reads' HO479.out).2.1)
                    rintro e w63 ⟨v495, v498, rfl, ho0, ho1, hb⟩
                    refine ⟨_, rfl, ?_⟩
                    have n0_ := Aside0.mk (Kd.N_mono (Kd.N_told (Kd.N_told (Kd.N_old (by (with_reducible repeat (first | apply Kd.N_alloc | apply Kd.N_drewN | apply Kd.N_drew)); exact HO466.out) hb) (Kd.N_base ho0)) (Kd.N_base ho1)) (fun _ h_ => h_.1))
                    have n1_ := Aside0.mk (Kd.N_mono (Kd.N_told (Kd.N_told (Kd.N_old (by (with_reducible repeat (first | apply Kd.N_alloc | apply Kd.N_drewN | apply Kd.N_drew)); exact HO469.out) hb) (Kd.N_base ho0)) (Kd.N_base ho1)) (fun _ h_ => h_.1))
                    have n2_ := Aside0.mk (Kd.R_below (by (with_reducible repeat (first | apply Kd.R_alloc | apply Kd.R_drewN | apply Kd.R_drew)); exact HO479.out) hb)
                    have n3_ := Aside0.mk (Kd.N_mono (Kd.N_told (Kd.N_told (Kd.N_old (by (with_reducible repeat (first | apply Kd.N_alloc | apply Kd.N_drewN | apply Kd.N_drew)); exact HO482.out) hb) (Kd.N_base ho0)) (Kd.N_base ho1)) (fun _ h_ => h_.1))
                    have n4_ := Aside0.mk (Kd.N_mono (Kd.N_told (Kd.N_told (Kd.N_old (by (with_reducible repeat (first | apply Kd.N_alloc | apply Kd.N_drewN | apply Kd.N_drew)); exact HO485.out) hb) (Kd.N_base ho0)) (Kd.N_base ho1)) (fun _ h_ => h_.1))
                    have n5_ := Aside0.mk (Kd.N_mono (Kd.N_told (Kd.N_told (Kd.N_old (by (with_reducible repeat (first | apply Kd.N_alloc | apply Kd.N_drewN | apply Kd.N_drew)); exact HO489.out) hb) (Kd.N_base ho0)) (Kd.N_base ho1)) (fun _ h_ => h_.1))
                    have n6_ := Aside0.mk (Kd.N_mono (Kd.N_told (Kd.N_told (Kd.N_old (by (with_reducible repeat (first | apply Kd.N_alloc | apply Kd.N_drewN | apply Kd.N_drew)); exact HO492.out) hb) (Kd.N_base ho0)) (Kd.N_base ho1)) (fun _ h_ => h_.1))
                    have n7_ := Aside0.mk (Kd.N_lower (Kd.N_mono (ok' := fun k_ => some k_ ≠ (v498 : Value).ownBlock ∧ some k_ ≠ (.slice Ao45 t464.length co45 : Value).ownBlock ∧ some k_ ≠ (.slice Ao48 t467.length co48 : Value).ownBlock ∧ some k_ ≠ (.slice Ao62 y477.length co62 : Value).ownBlock ∧ some k_ ≠ (.slice Ao55 t480.length co55 : Value).ownBlock ∧ some k_ ≠ (.slice Ao56 t483.length co56 : Value).ownBlock ∧ some k_ ≠ (.slice Ao59 t487.length co59 : Value).ownBlock ∧ some k_ ≠ (.slice Ao60 t490.length co60 : Value).ownBlock ∧ k_ ≠ gb460 ∧ k_ ≠ gb470) ho0 (fun k_ hk_ => ⟨hk_.2, Or.elim hk_.1 (fun hs_ => Or.elim hs_ (fun hs_ => fun e_ => Nat.not_le.2 hs_ (Kd.N_base HO466.out k_ e_.symm)) (fun hs_ => fun e_ => Nat.not_le.2 hs_ (Kd.N_base HO466.out k_ e_.symm))) (fun hn_ => (Kd.fresh' (Kd.N_lt (by (with_reducible repeat (first | apply Kd.N_alloc | apply Kd.N_drewN | apply Kd.N_drew)); exact HO466.out)) k_ hn_)), Or.elim hk_.1 (fun hs_ => Or.elim hs_ (fun hs_ => fun e_ => Nat.not_le.2 hs_ (Kd.N_base HO469.out k_ e_.symm)) (fun hs_ => fun e_ => Nat.not_le.2 hs_ (Kd.N_base HO469.out k_ e_.symm))) (fun hn_ => (Kd.fresh' (Kd.N_lt (by (with_reducible repeat (first | apply Kd.N_alloc | apply Kd.N_drewN | apply Kd.N_drew)); exact HO469.out)) k_ hn_)), Or.elim hk_.1 (fun hs_ => Or.elim hs_ (fun hs_ => fun e_ => Nat.not_le.2 hs_ (Kd.R_base HO479.out k_ e_.symm)) (fun hs_ => fun e_ => Nat.not_le.2 hs_ (Kd.R_base HO479.out k_ e_.symm))) (fun hn_ => (Kd.fresh' (Kd.R_lt (by (with_reducible repeat (first | apply Kd.R_alloc | apply Kd.R_drewN | apply Kd.R_drew)); exact HO479.out)) k_ hn_)), Or.elim hk_.1 (fun hs_ => Or.elim hs_ (fun hs_ => fun e_ => Nat.not_le.2 hs_ (Kd.N_base HO482.out k_ e_.symm)) (fun hs_ => fun e_ => Nat.not_le.2 hs_ (Kd.N_base HO482.out k_ e_.symm))) (fun hn_ => (Kd.fresh' (Kd.N_lt (by (with_reducible repeat (first | apply Kd.N_alloc | apply Kd.N_drewN | apply Kd.N_drew)); exact HO482.out)) k_ hn_)), Or.elim hk_.1 (fun hs_ => Or.elim hs_ (fun hs_ => fun e_ => Nat.not_le.2 hs_ (Kd.N_base HO485.out k_ e_.symm)) (fun hs_ => fun e_ => Nat.not_le.2 hs_ (Kd.N_base HO485.out k_ e_.symm))) (fun hn_ => (Kd.fresh' (Kd.N_lt (by (with_reducible repeat (first | apply Kd.N_alloc | apply Kd.N_drewN | apply Kd.N_drew)); exact HO485.out)) k_ hn_)), Or.elim hk_.1 (fun hs_ => Or.elim hs_ (fun hs_ => fun e_ => Nat.not_le.2 hs_ (Kd.N_base HO489.out k_ e_.symm)) (fun hs_ => fun e_ => Nat.not_le.2 hs_ (Kd.N_base HO489.out k_ e_.symm))) (fun hn_ => (Kd.fresh' (Kd.N_lt (by (with_reducible repeat (first | apply Kd.N_alloc | apply Kd.N_drewN | apply Kd.N_drew)); exact HO489.out)) k_ hn_)), Or.elim hk_.1 (fun hs_ => Or.elim hs_ (fun hs_ => fun e_ => Nat.not_le.2 hs_ (Kd.N_base HO492.out k_ e_.symm)) (fun hs_ => fun e_ => Nat.not_le.2 hs_ (Kd.N_base HO492.out k_ e_.symm))) (fun hn_ => (Kd.fresh' (Kd.N_lt (by (with_reducible repeat (first | apply Kd.N_alloc | apply Kd.N_drewN | apply Kd.N_drew)); exact HO492.out)) k_ hn_)), Or.elim hk_.1 (fun hs_ => Or.elim hs_ (fun hs_ => fun e_ => Nat.not_le.2 hs_ (by rw [e_]; exact GW460.out)) (fun hs_ => fun e_ => Nat.not_le.2 hs_ (by rw [e_]; exact GW460.out))) (fun hn_ => (Kd.freshB (g := gb460) (o := .cells #[.slice A0_0 l0_0.length c0_0, .slice A0_1 l0_1.length c0_1] 25 (0, 0)) (by (with_reducible repeat (first | refine qN ?_ _ | refine qD ?_ | refine qA ?_ _)); exact BK460.out) k_ hn_)), Or.elim hk_.1 (fun hs_ => Or.elim hs_ (fun hs_ => fun e_ => Nat.not_le.2 hs_ (by rw [e_]; exact GW470.out)) (fun hs_ => fun e_ => Nat.not_le.2 hs_ (by rw [e_]; exact GW470.out))) (fun hn_ => (Kd.freshB (g := gb470) (o := .cells #[.slice Ao45 t464.length co45, .slice Ao48 t467.length co48] 25 (0, 0)) (by (with_reducible repeat (first | refine qN ?_ _ | refine qD ?_ | refine qA ?_ _)); exact BK470.out) k_ hn_))⟩)) (below_size (by repeat (first | (with_reducible first | exact HB.out | apply pA | apply pN | apply pD | refine pS ?_ GE460.out | refine pS ?_ GE470.out) | exact HB.out))))
                    have n8_ := Aside0.mk (Kd.N_lower (Kd.N_mono (ok' := fun k_ => some k_ ≠ (v495 : Value).ownBlock ∧ some k_ ≠ (.slice Ao45 t464.length co45 : Value).ownBlock ∧ some k_ ≠ (.slice Ao48 t467.length co48 : Value).ownBlock ∧ some k_ ≠ (.slice Ao62 y477.length co62 : Value).ownBlock ∧ some k_ ≠ (.slice Ao55 t480.length co55 : Value).ownBlock ∧ some k_ ≠ (.slice Ao56 t483.length co56 : Value).ownBlock ∧ some k_ ≠ (.slice Ao59 t487.length co59 : Value).ownBlock ∧ some k_ ≠ (.slice Ao60 t490.length co60 : Value).ownBlock ∧ k_ ≠ gb460 ∧ k_ ≠ gb470) ho1 (fun k_ hk_ => ⟨hk_.2, Or.elim hk_.1 (fun hs_ => Or.elim hs_ (fun hs_ => fun e_ => Nat.not_le.2 hs_ (Kd.N_base HO466.out k_ e_.symm)) (fun hs_ => fun e_ => Nat.not_le.2 hs_ (Kd.N_base HO466.out k_ e_.symm))) (fun hn_ => (Kd.fresh' (Kd.N_lt (by (with_reducible repeat (first | apply Kd.N_alloc | apply Kd.N_drewN | apply Kd.N_drew)); exact HO466.out)) k_ hn_)), Or.elim hk_.1 (fun hs_ => Or.elim hs_ (fun hs_ => fun e_ => Nat.not_le.2 hs_ (Kd.N_base HO469.out k_ e_.symm)) (fun hs_ => fun e_ => Nat.not_le.2 hs_ (Kd.N_base HO469.out k_ e_.symm))) (fun hn_ => (Kd.fresh' (Kd.N_lt (by (with_reducible repeat (first | apply Kd.N_alloc | apply Kd.N_drewN | apply Kd.N_drew)); exact HO469.out)) k_ hn_)), Or.elim hk_.1 (fun hs_ => Or.elim hs_ (fun hs_ => fun e_ => Nat.not_le.2 hs_ (Kd.R_base HO479.out k_ e_.symm)) (fun hs_ => fun e_ => Nat.not_le.2 hs_ (Kd.R_base HO479.out k_ e_.symm))) (fun hn_ => (Kd.fresh' (Kd.R_lt (by (with_reducible repeat (first | apply Kd.R_alloc | apply Kd.R_drewN | apply Kd.R_drew)); exact HO479.out)) k_ hn_)), Or.elim hk_.1 (fun hs_ => Or.elim hs_ (fun hs_ => fun e_ => Nat.not_le.2 hs_ (Kd.N_base HO482.out k_ e_.symm)) (fun hs_ => fun e_ => Nat.not_le.2 hs_ (Kd.N_base HO482.out k_ e_.symm))) (fun hn_ => (Kd.fresh' (Kd.N_lt (by (with_reducible repeat (first | apply Kd.N_alloc | apply Kd.N_drewN | apply Kd.N_drew)); exact HO482.out)) k_ hn_)), Or.elim hk_.1 (fun hs_ => Or.elim hs_ (fun hs_ => fun e_ => Nat.not_le.2 hs_ (Kd.N_base HO485.out k_ e_.symm)) (fun hs_ => fun e_ => Nat.not_le.2 hs_ (Kd.N_base HO485.out k_ e_.symm))) (fun hn_ => (Kd.fresh' (Kd.N_lt (by (with_reducible repeat (first | apply Kd.N_alloc | apply Kd.N_drewN | apply Kd.N_drew)); exact HO485.out)) k_ hn_)), Or.elim hk_.1 (fun hs_ => Or.elim hs_ (fun hs_ => fun e_ => Nat.not_le.2 hs_ (Kd.N_base HO489.out k_ e_.symm)) (fun hs_ => fun e_ => Nat.not_le.2 hs_ (Kd.N_base HO489.out k_ e_.symm))) (fun hn_ => (Kd.fresh' (Kd.N_lt (by (with_reducible repeat (first | apply Kd.N_alloc | apply Kd.N_drewN | apply Kd.N_drew)); exact HO489.out)) k_ hn_)), Or.elim hk_.1 (fun hs_ => Or.elim hs_ (fun hs_ => fun e_ => Nat.not_le.2 hs_ (Kd.N_base HO492.out k_ e_.symm)) (fun hs_ => fun e_ => Nat.not_le.2 hs_ (Kd.N_base HO492.out k_ e_.symm))) (fun hn_ => (Kd.fresh' (Kd.N_lt (by (with_reducible repeat (first | apply Kd.N_alloc | apply Kd.N_drewN | apply Kd.N_drew)); exact HO492.out)) k_ hn_)), Or.elim hk_.1 (fun hs_ => Or.elim hs_ (fun hs_ => fun e_ => Nat.not_le.2 hs_ (by rw [e_]; exact GW460.out)) (fun hs_ => fun e_ => Nat.not_le.2 hs_ (by rw [e_]; exact GW460.out))) (fun hn_ => (Kd.freshB (g := gb460) (o := .cells #[.slice A0_0 l0_0.length c0_0, .slice A0_1 l0_1.length c0_1] 25 (0, 0)) (by (with_reducible repeat (first | refine qN ?_ _ | refine qD ?_ | refine qA ?_ _)); exact BK460.out) k_ hn_)), Or.elim hk_.1 (fun hs_ => Or.elim hs_ (fun hs_ => fun e_ => Nat.not_le.2 hs_ (by rw [e_]; exact GW470.out)) (fun hs_ => fun e_ => Nat.not_le.2 hs_ (by rw [e_]; exact GW470.out))) (fun hn_ => (Kd.freshB (g := gb470) (o := .cells #[.slice Ao45 t464.length co45, .slice Ao48 t467.length co48] 25 (0, 0)) (by (with_reducible repeat (first | refine qN ?_ _ | refine qD ?_ | refine qA ?_ _)); exact BK470.out) k_ hn_))⟩)) (below_size (by repeat (first | (with_reducible first | exact HB.out | apply pA | apply pN | apply pD | refine pS ?_ GE460.out | refine pS ?_ GE470.out) | exact HB.out))))
                    have n9_ := Aside0.mk (blk_below (g := gb460) (o := .cells #[.slice A0_0 l0_0.length c0_0, .slice A0_1 l0_1.length c0_1] 25 (0, 0)) (by (with_reducible repeat (first | refine qN ?_ _ | refine qD ?_ | refine qA ?_ _)); exact BK460.out) hb)
                    have n10_ := Aside0.mk (blk_below (g := gb470) (o := .cells #[.slice Ao45 t464.length co45, .slice Ao48 t467.length co48] 25 (0, 0)) (by (with_reducible repeat (first | refine qN ?_ _ | refine qD ?_ | refine qA ?_ _)); exact BK470.out) hb)
                    have n11_ := Aside0.mk (below_step (by repeat (first | (with_reducible first | exact HB.out | apply pA | apply pN | apply pD | refine pS ?_ GE460.out | refine pS ?_ GE470.out) | exact HB.out)) hb)
                    clear HO466
                    clear HO469
                    clear HO479
                    clear HO482
                    clear HO485
                    clear HO489
                    clear HO492
                    clear BK460
                    clear BK470
                    clear HB
                    have HO466 := n0_
                    have HO469 := n1_
                    have HO479 := n2_
                    have HO482 := n3_
                    have HO485 := n4_
                    have HO489 := n5_
                    have HO492 := n6_
                    have HO496 := n7_
                    have HO499 := n8_
                    have BK460 := n9_
                    have BK470 := n10_
                    have HB := n11_
                    clear n0_ n1_ n2_ n3_ n4_ n5_ n6_ n7_ n8_ n9_ n10_ n11_
                    (try clear hb)
                    (try clear hb2)
                    (try clear hk)
                    (try clear hi)
                    (try clear ho0)
                    (try clear ho1)
                    obtain ⟨Ao64, co64, eo64⟩ := Kd.N_slice HO496.out
                    (first | subst eo64 | (injection eo64 with f1_ f2_ f3_; have f4_ := f1_.symm; have f5_ := f3_.symm; clear f1_ f2_ f3_; subst f4_; subst f5_))
                    obtain ⟨Ao65, co65, eo65⟩ := Kd.N_slice HO499.out
                    (first | subst eo65 | (injection eo65 with f1_ f2_ f3_; have f4_ := f1_.symm; have f5_ := f3_.symm; clear f1_ f2_ f3_; subst f4_; subst f5_))
                    refine hK.out _ _ ⟨(blk_cell BK470.out 0).trans rfl, (blk_cell BK470.out 1).trans rfl, (blk_cell BK460.out 0).trans rfl, (blk_cell BK460.out 1).trans rfl⟩ (fun hHeld => ?_)
                    clear hK K
                    refine norm_ (a' := ?_) ?_ ?_
                    rotate_left
                    · show Act.put _ (some 54) _ = _
                      simp only [Act.put, List.setIfInBounds_toArray, List.set_cons_zero, List.set_cons_succ, i64_w, i32_w]
                      rfl
                    refine one_ (i := 19) (N := some 56) #[true, true, true, true, true, true, true, true, true, true, true, true, true, true, true, true, true, true, true, true, false, false, false, false, false, false] rfl rfl (one_of HT_.out (by kernel_rfl)) (by decide) (fun K hK => ?_)
                    refine goes_ Try.func16 (by kernel_rfl) rfl #[.agg #[.slice Ao64 t494.length co64, .slice Ao65 t497.length co65], .agg #[.slice Ao45 t464.length co45, .slice Ao48 t467.length co48]] (by rfl) rfl rfl (by (try simp only [List.map_toArray, List.map_cons, List.map_nil]); first | done | rfl | (simp only [List.length_drop, List.length_take]; rfl)) ?_
                    with_reducible refine (portreeveref03_Same.calls kj4 _ _ t494 _ _ t497 _ _ t464 _ _ t467 true _ ?side1 ?side2 ?side3 ?side4 ?side5 ?side6 ?side7 ?side8 A39.out).mono ?_
                    (case side1 => repeat (first | exact (Kd.N_reads' HO496.out).2.2 | (with_reducible refine Kd.C_alloc ?_ _) | (with_reducible refine Kd.C_drewN ?_ _) | (with_reducible refine Kd.C_drew ?_)))
                    (case side2 => exact (Kd.N_reads' HO496.out).2.1)
                    (case side3 => repeat (first | exact (Kd.N_reads' HO499.out).2.2 | (with_reducible refine Kd.C_alloc ?_ _) | (with_reducible refine Kd.C_drewN ?_ _) | (with_reducible refine Kd.C_drew ?_)))
                    (case side4 => exact (Kd.N_reads' HO499.out).2.1)
                    (case side5 => repeat (first | exact (Kd.N_reads' HO466.out).2.2 | (with_reducible refine Kd.C_alloc ?_ _) | (with_reducible refine Kd.C_drewN ?_ _) | (with_reducible refine Kd.C_drew ?_)))
                    (case side6 => exact (Kd.N_reads' HO466.out).2.1)
                    (case side7 => repeat (first | exact (Kd.N_reads' HO469.out).2.2 | (with_reducible refine Kd.C_alloc ?_ _) | (with_reducible refine Kd.C_drewN ?_ _) | (with_reducible refine Kd.C_drew ?_)))
                    (case side8 => exact (Kd.N_reads' HO469.out).2.1)
                    rintro e w66 ⟨rfl, hb⟩
                    refine ⟨_, rfl, ?_⟩
                    have n0_ := Aside0.mk (Kd.N_below (by (with_reducible repeat (first | apply Kd.N_alloc | apply Kd.N_drewN | apply Kd.N_drew)); exact HO466.out) hb)
                    have n1_ := Aside0.mk (Kd.N_below (by (with_reducible repeat (first | apply Kd.N_alloc | apply Kd.N_drewN | apply Kd.N_drew)); exact HO469.out) hb)
                    have n2_ := Aside0.mk (Kd.R_below (by (with_reducible repeat (first | apply Kd.R_alloc | apply Kd.R_drewN | apply Kd.R_drew)); exact HO479.out) hb)
                    have n3_ := Aside0.mk (Kd.N_below (by (with_reducible repeat (first | apply Kd.N_alloc | apply Kd.N_drewN | apply Kd.N_drew)); exact HO482.out) hb)
                    have n4_ := Aside0.mk (Kd.N_below (by (with_reducible repeat (first | apply Kd.N_alloc | apply Kd.N_drewN | apply Kd.N_drew)); exact HO485.out) hb)
                    have n5_ := Aside0.mk (Kd.N_below (by (with_reducible repeat (first | apply Kd.N_alloc | apply Kd.N_drewN | apply Kd.N_drew)); exact HO489.out) hb)
                    have n6_ := Aside0.mk (Kd.N_below (by (with_reducible repeat (first | apply Kd.N_alloc | apply Kd.N_drewN | apply Kd.N_drew)); exact HO492.out) hb)
                    have n7_ := Aside0.mk (Kd.N_below (by (with_reducible repeat (first | apply Kd.N_alloc | apply Kd.N_drewN | apply Kd.N_drew)); exact HO496.out) hb)
                    have n8_ := Aside0.mk (Kd.N_below (by (with_reducible repeat (first | apply Kd.N_alloc | apply Kd.N_drewN | apply Kd.N_drew)); exact HO499.out) hb)
                    have n9_ := Aside0.mk (blk_below (g := gb460) (o := .cells #[.slice A0_0 l0_0.length c0_0, .slice A0_1 l0_1.length c0_1] 25 (0, 0)) (by (with_reducible repeat (first | refine qN ?_ _ | refine qD ?_ | refine qA ?_ _)); exact BK460.out) hb)
                    have n10_ := Aside0.mk (blk_below (g := gb470) (o := .cells #[.slice Ao45 t464.length co45, .slice Ao48 t467.length co48] 25 (0, 0)) (by (with_reducible repeat (first | refine qN ?_ _ | refine qD ?_ | refine qA ?_ _)); exact BK470.out) hb)
                    have n11_ := Aside0.mk (below_step (by repeat (first | (with_reducible first | exact HB.out | apply pA | apply pN | apply pD | refine pS ?_ GE460.out | refine pS ?_ GE470.out) | exact HB.out)) hb)
                    clear HO466
                    clear HO469
                    clear HO479
                    clear HO482
                    clear HO485
                    clear HO489
                    clear HO492
                    clear HO496
                    clear HO499
                    clear BK460
                    clear BK470
                    clear HB
                    have HO466 := n0_
                    have HO469 := n1_
                    have HO479 := n2_
                    have HO482 := n3_
                    have HO485 := n4_
                    have HO489 := n5_
                    have HO492 := n6_
                    have HO496 := n7_
                    have HO499 := n8_
                    have BK460 := n9_
                    have BK470 := n10_
                    have HB := n11_
                    clear n0_ n1_ n2_ n3_ n4_ n5_ n6_ n7_ n8_ n9_ n10_ n11_
                    (try clear hb)
                    (try clear hb2)
                    (try clear hk)
                    (try clear hi)
                    refine hK.out _ _ ⟨(blk_cell BK470.out 0).trans rfl, (blk_cell BK470.out 1).trans rfl, (blk_cell BK460.out 0).trans rfl, (blk_cell BK460.out 1).trans rfl⟩ (fun hHeld => ?_)
                    clear hK K
                    refine norm_ (a' := ?_) ?_ ?_
                    rotate_left
                    · show Act.put _ (some 56) _ = _
                      simp only [Act.put, List.setIfInBounds_toArray, List.set_cons_zero, List.set_cons_succ, i64_w, i32_w]
                      rfl
                    refine pure_ (i := 20) (N := some 57) (v := ?_) (a' := ?_) #[true, true, true, true, true, true, true, true, true, true, true, true, true, true, true, true, true, true, true, true, true, false, false, false, false, false] rfl rfl (any_of HT_.out (by kernel_rfl)) (fun _ _ _ h => h) (Or.inl ⟨by rfl, ?_⟩) ?_ ?_
                    rotate_left
                    · intro w'
                      go_simp
                      with_reducible rfl
                    rotate_left
                    · simp only [Act.put, List.setIfInBounds_toArray, List.set_cons_zero, List.set_cons_succ, i64_w, i32_w]
                      rfl
                    refine pure_ (i := 21) (N := some 58) (v := ?_) (a' := ?_) #[true, true, true, true, true, true, true, true, true, true, true, true, true, true, true, true, true, true, true, true, true, true, false, false, false, false] rfl rfl (any_of HT_.out (by kernel_rfl)) (fun _ _ _ h => h) (Or.inl ⟨by rfl, ?_⟩) ?_ ?_
                    rotate_left
                    · intro w'
                      go_simp
                      with_reducible rfl
                    rotate_left
                    · simp only [Act.put, List.setIfInBounds_toArray, List.set_cons_zero, List.set_cons_succ, i64_w, i32_w]
                      rfl
                    refine take_ (i := 22) (N := some 59) (v := ?_) (a' := ?_) #[true, true, true, true, true, true, true, true, true, true, true, true, true, true, true, true, true, true, true, true, true, true, true, false, false, false] rfl rfl (take_ofW HT_.out HW_.out (by kernel_rfl)) (fun _ _ _ h => h) (Or.inl ⟨by rfl, ?_⟩) hHeld ?_ ?_
                    rotate_left
                    · rintro w' ⟨s0, s1, s2, s3⟩
                      go_simp
                      with_reducible rfl
                    rotate_left
                    · simp only [Act.put, List.setIfInBounds_toArray, List.set_cons_zero, List.set_cons_succ, i64_w, i32_w]
                      rfl
                    refine one_ (i := 23) (N := some 60) #[true, true, true, true, true, true, true, true, true, true, true, true, true, true, true, true, true, true, true, true, true, true, true, true, false, false] rfl rfl (one_of HT_.out (by kernel_rfl)) (by decide) (fun K hK => ?_)
                    refine goes_ Try.func22 (by kernel_rfl) rfl #[.agg #[.slice Ao45 t464.length co45, .slice Ao48 t467.length co48]] (by rfl) rfl rfl (by (try simp only [List.map_toArray, List.map_cons, List.map_nil]); first | done | rfl | (simp only [List.length_drop, List.length_take]; rfl)) ?_
                    with_reducible refine (disk_Right.calls kj4 _ _ t464 _ _ t467 t501 _ ?side1 ?side2 ?side3 ?side4 A41.out).mono ?_
                    (case side1 => repeat (first | exact (Kd.N_reads' HO466.out).2.2 | (with_reducible refine Kd.C_alloc ?_ _) | (with_reducible refine Kd.C_drewN ?_ _) | (with_reducible refine Kd.C_drew ?_)))
                    (case side2 => exact (Kd.N_reads' HO466.out).2.1)
                    (case side3 => repeat (first | exact (Kd.N_reads' HO469.out).2.2 | (with_reducible refine Kd.C_alloc ?_ _) | (with_reducible refine Kd.C_drewN ?_ _) | (with_reducible refine Kd.C_drew ?_)))
                    (case side4 => exact (Kd.N_reads' HO469.out).2.1)
                    rintro e w67 ⟨rfl, hb⟩
                    refine ⟨_, rfl, ?_⟩
                    have n0_ := Aside0.mk (Kd.N_below (by (with_reducible repeat (first | apply Kd.N_alloc | apply Kd.N_drewN | apply Kd.N_drew)); exact HO466.out) hb)
                    have n1_ := Aside0.mk (Kd.N_below (by (with_reducible repeat (first | apply Kd.N_alloc | apply Kd.N_drewN | apply Kd.N_drew)); exact HO469.out) hb)
                    have n2_ := Aside0.mk (Kd.R_below (by (with_reducible repeat (first | apply Kd.R_alloc | apply Kd.R_drewN | apply Kd.R_drew)); exact HO479.out) hb)
                    have n3_ := Aside0.mk (Kd.N_below (by (with_reducible repeat (first | apply Kd.N_alloc | apply Kd.N_drewN | apply Kd.N_drew)); exact HO482.out) hb)
                    have n4_ := Aside0.mk (Kd.N_below (by (with_reducible repeat (first | apply Kd.N_alloc | apply Kd.N_drewN | apply Kd.N_drew)); exact HO485.out) hb)
                    have n5_ := Aside0.mk (Kd.N_below (by (with_reducible repeat (first | apply Kd.N_alloc | apply Kd.N_drewN | apply Kd.N_drew)); exact HO489.out) hb)
                    have n6_ := Aside0.mk (Kd.N_below (by (with_reducible repeat (first | apply Kd.N_alloc | apply Kd.N_drewN | apply Kd.N_drew)); exact HO492.out) hb)
                    have n7_ := Aside0.mk (Kd.N_below (by (with_reducible repeat (first | apply Kd.N_alloc | apply Kd.N_drewN | apply Kd.N_drew)); exact HO496.out) hb)
                    have n8_ := Aside0.mk (Kd.N_below (by (with_reducible repeat (first | apply Kd.N_alloc | apply Kd.N_drewN | apply Kd.N_drew)); exact HO499.out) hb)
                    have n9_ := Aside0.mk (blk_below (g := gb460) (o := .cells #[.slice A0_0 l0_0.length c0_0, .slice A0_1 l0_1.length c0_1] 25 (0, 0)) (by (with_reducible repeat (first | refine qN ?_ _ | refine qD ?_ | refine qA ?_ _)); exact BK460.out) hb)
                    have n10_ := Aside0.mk (blk_below (g := gb470) (o := .cells #[.slice Ao45 t464.length co45, .slice Ao48 t467.length co48] 25 (0, 0)) (by (with_reducible repeat (first | refine qN ?_ _ | refine qD ?_ | refine qA ?_ _)); exact BK470.out) hb)
                    have n11_ := Aside0.mk (below_step (by repeat (first | (with_reducible first | exact HB.out | apply pA | apply pN | apply pD | refine pS ?_ GE460.out | refine pS ?_ GE470.out) | exact HB.out)) hb)
                    clear HO466
                    clear HO469
                    clear HO479
                    clear HO482
                    clear HO485
                    clear HO489
                    clear HO492
                    clear HO496
                    clear HO499
                    clear BK460
                    clear BK470
                    clear HB
                    have HO466 := n0_
                    have HO469 := n1_
                    have HO479 := n2_
                    have HO482 := n3_
                    have HO485 := n4_
                    have HO489 := n5_
                    have HO492 := n6_
                    have HO496 := n7_
                    have HO499 := n8_
                    have BK460 := n9_
                    have BK470 := n10_
                    have HB := n11_
                    clear n0_ n1_ n2_ n3_ n4_ n5_ n6_ n7_ n8_ n9_ n10_ n11_
                    (try clear hb)
                    (try clear hb2)
                    (try clear hk)
                    (try clear hi)
                    refine hK.out _ _ ⟨(blk_cell BK470.out 0).trans rfl, (blk_cell BK470.out 1).trans rfl, (blk_cell BK460.out 0).trans rfl, (blk_cell BK460.out 1).trans rfl⟩ (fun hHeld => ?_)
                    clear hK K
                    refine norm_ (a' := ?_) ?_ ?_
                    rotate_left
                    · show Act.put _ (some 60) _ = _
                      simp only [Act.put, List.setIfInBounds_toArray, List.set_cons_zero, List.set_cons_succ, i64_w, i32_w]
                      rfl
                    refine pure_ (i := 24) (N := some 61) (v := ?_) (a' := ?_) #[true, true, true, true, true, true, true, true, true, true, true, true, true, true, true, true, true, true, true, true, true, true, true, true, true, false] rfl rfl (any_of HT_.out (by kernel_rfl)) (fun _ _ _ h => h) (Or.inl ⟨by rfl, ?_⟩) ?_ ?_
                    rotate_left
                    · intro w'
                      go_simp
                      with_reducible rfl
                    rotate_left
                    · simp only [Act.put, List.setIfInBounds_toArray, List.set_cons_zero, List.set_cons_succ, i64_w, i32_w]
                      rfl
                    refine pure_ (i := 25) (N := some 6) (v := ?_) (a' := ?_) #[true, true, true, true, true, true, true, true, true, true, true, true, true, true, true, true, true, true, true, true, true, true, true, true, true, true] rfl rfl (any_of HT_.out (by kernel_rfl)) (fun _ _ _ h => h) (Or.inl ⟨by rfl, ?_⟩) ?_ ?_
                    rotate_left
                    · intro w'
                      go_simp
                      with_reducible rfl
                    rotate_left
                    · simp only [Act.put, List.setIfInBounds_toArray, List.set_cons_zero, List.set_cons_succ, i64_w, i32_w]
                      rfl
                    refine done_ (done_of HT_.out (by kernel_rfl)) ?_
                    try go_wp2
                    go_ret
                    exact ⟨by first | rfl | (simp [errW_none, errW_some] <;> rfl) | (simp [*, errW_none, errW_some] <;> rfl), by repeat (first | (with_reducible first | exact HB.out | apply pA | apply pN | apply pD | refine pS ?_ GE460.out | refine pS ?_ GE470.out) | exact HB.out)⟩
                  · replace c40 := Bool.eq_false_iff.mpr c40
                    subst c40
                    have H1 : (some false) = some r := by rw [if_neg (show ¬ (false = true) by decide)] at H; exact H
                    clear H
                    have H := H1
                    clear H1
                    exact absurd ((Option.some.inj H).trans hlaw_.out) (by decide)
                · replace c37 := Bool.eq_false_iff.mpr c37
                  subst c37
                  have H1 : (some false) = some r := by rw [if_neg (show ¬ (false = true) by decide)] at H; exact H
                  clear H
                  have H := H1
                  clear H1
                  exact absurd ((Option.some.inj H).trans hlaw_.out) (by decide)
              · replace c34 := Bool.eq_false_iff.mpr c34
                subst c34
                have H1 : (some false) = some r := by rw [if_neg (show ¬ (false = true) by decide)] at H; exact H
                clear H
                have H := H1
                clear H1
                exact absurd ((Option.some.inj H).trans hlaw_.out) (by decide)
            · replace c31 := Bool.eq_false_iff.mpr c31
              subst c31
              have H1 : (some false) = some r := by rw [if_neg (show ¬ (false = true) by decide)] at H; exact H
              clear H
              have H := H1
              clear H1
              exact absurd ((Option.some.inj H).trans hlaw_.out) (by decide)
          · rw [if_neg c30] at H
            exact absurd H (by simp)
        · rw [if_neg c29] at H
          exact absurd H (by simp)

end Go.Proofs.Ytnhfhepakimncaa.Q

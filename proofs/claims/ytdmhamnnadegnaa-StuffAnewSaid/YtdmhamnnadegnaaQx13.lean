-- written by this session's own program (wip/tools/myprint.py), over the kit's print
import Derived.Test.YtdmhamnnadegnaaQx0
import Derived.Test.YtdmhamnnadegnaaQx4
import Derived.Test.YtdmhamnnadegnaaQx6
import Derived.Test.YtdmhamnnadegnaaQx8
import Derived.Test.YtdmhamnnadegnaaQx9
namespace Go.Proofs.Ytdmhamnnadegnaa.Q
open Go.RowKit Go.Proofs.YtdmhamnnadegnaaW.PrintWords Go.Proofs.YtdmhamnnadegnaaW.PrintLast Go.Proofs.YtdmhamnnadegnaaW.PrintMore
open Go.Proofs.YtdmhamnnadegnaaV
attribute [local go_sem] max2_int min2_int max_two min_two max_three min_three max_four min_four   -- for this text's walks alone
set_option linter.unusedVariables false
set_option linter.unusedSimpArgs false

/-! ### portreevelaw07_StuffAnew: function 8 -/
mutual
def portreevelaw07_StuffAnew.j0 : Nat → List Int → Bool → Bool → List Int → Bool → Option (Bool)
  | 0, _, _, _, _, _ => none
  | k + 1, x1, x5, x25, x409000, x409001 => if x25 = true then (some x5) else ((stuff_Feed.f k x409000 x409001 126).bind fun bt411 => ((portreeveref07_Same.f k bt411.1 bt411.2.1 ([] : List Int) false).bind fun t420 => (if t420 = true then (portreevelaw07_StuffAnew.l0 k x1 x5 0 bt411.1 bt411.2.1 ([] : List Int) false) else (some false))))
def portreevelaw07_StuffAnew.l0 : Nat → List Int → Bool → Int → List Int → Bool → List Int → Bool → Option (Bool)
  | 0, _, _, _, _, _, _, _ => none
  | k + 1, x1, x5, x10, x420000, x420001, x422000, x422001 => if x10 < (x1.length : Int) then (if 0 ≤ x10 then ((stuff_Feed.f k x420000 x420001 (rd x1 x10)).bind fun bt423 => ((stuff_Feed.f k x422000 x422001 (rd x1 x10)).bind fun bt433 => (if (bt423.2.2.2 != bt433.2.2.2) = true then (portreevelaw07_StuffAnew.j2 k x1 x5 x10 true bt423.1 bt423.2.1 bt433.1 bt433.2.1) else ((portreeveref01_Row.f k bt423.2.2.1 bt433.2.2.1).bind fun t442 => (if t442 = true then ((portreeveref07_Same.f k bt423.1 bt423.2.1 bt433.1 bt433.2.1).bind fun t443 => (portreevelaw07_StuffAnew.j2 k x1 x5 x10 (!t443) bt423.1 bt423.2.1 bt433.1 bt433.2.1)) else (portreevelaw07_StuffAnew.j2 k x1 x5 x10 true bt423.1 bt423.2.1 bt433.1 bt433.2.1)))))) else (none)) else (some x5)
def portreevelaw07_StuffAnew.j2 : Nat → List Int → Bool → Int → Bool → List Int → Bool → List Int → Bool → Option (Bool)
  | 0, _, _, _, _, _, _, _, _ => none
  | k + 1, x1, x5, x10, x78, x432000, x432001, x442000, x442001 => if x78 = true then (some false) else (portreevelaw07_StuffAnew.l0 k x1 x5 (wrap64 (x10 + 1)) x432000 x432001 x442000 x442001)
end
def portreevelaw07_StuffAnew.f (k : Nat) (l0_0 : List Int) (a0_1 : Bool) (l1 : List Int) : Option (Bool) := (portreevelaw07_shown.f k).bind fun t409 => ((portreeveref07_Right.f k l0_0 a0_1).bind fun t410 => (if t410 = true then (portreevelaw07_StuffAnew.j0 k l1 t409 (decide ((l1.length : Int) > 500)) l0_0 a0_1) else (portreevelaw07_StuffAnew.j0 k l1 t409 true l0_0 a0_1)))
theorem portreevelaw07_StuffAnew.mono_l : ∀ k, (∀ y0 y1 y2 y3 y4, LeO (portreevelaw07_StuffAnew.j0 k y0 y1 y2 y3 y4) (portreevelaw07_StuffAnew.j0 (k + 1) y0 y1 y2 y3 y4)) ∧ (∀ y0 y1 y2 y3 y4 y5 y6, LeO (portreevelaw07_StuffAnew.l0 k y0 y1 y2 y3 y4 y5 y6) (portreevelaw07_StuffAnew.l0 (k + 1) y0 y1 y2 y3 y4 y5 y6)) ∧ (∀ y0 y1 y2 y3 y4 y5 y6 y7, LeO (portreevelaw07_StuffAnew.j2 k y0 y1 y2 y3 y4 y5 y6 y7) (portreevelaw07_StuffAnew.j2 (k + 1) y0 y1 y2 y3 y4 y5 y6 y7))
  | 0 => ⟨fun _ _ _ _ _ r h => by simp [portreevelaw07_StuffAnew.j0] at h, fun _ _ _ _ _ _ _ r h => by simp [portreevelaw07_StuffAnew.l0] at h, fun _ _ _ _ _ _ _ _ r h => by simp [portreevelaw07_StuffAnew.j2] at h⟩
  | k + 1 => by
    obtain ⟨ih0, ih1, ih2⟩ := portreevelaw07_StuffAnew.mono_l k
    refine ⟨?_, ?_, ?_⟩
    · intro y0 y1 y2 y3 y4
      unfold portreevelaw07_StuffAnew.j0
      repeat' first
      | (with_reducible exact ih0 _ _ _ _ _)
      | (with_reducible exact ih1 _ _ _ _ _ _ _)
      | (with_reducible exact ih2 _ _ _ _ _ _ _ _)
      | (with_reducible exact portreevelaw07_shown.mono _)
      | (with_reducible exact portreeveref01_Row.mono _ _ _)
      | (with_reducible exact portreeveref07_Right.mono _ _ _)
      | (with_reducible exact portreeveref07_Same.mono _ _ _ _ _)
      | (with_reducible exact stuff_Feed.mono _ _ _ _)
      | (with_reducible exact LeO.refl _)
      | (with_reducible exact LeO.none _)
      | (with_reducible refine LeO.ite ?_ ?_)
      | (with_reducible refine LeO.bind ?_ (fun _ => ?_))
      | exact ih0 _ _ _ _ _
      | exact ih1 _ _ _ _ _ _ _
      | exact ih2 _ _ _ _ _ _ _ _
      | exact portreevelaw07_shown.mono _
      | exact portreeveref01_Row.mono _ _ _
      | exact portreeveref07_Right.mono _ _ _
      | exact portreeveref07_Same.mono _ _ _ _ _
      | exact stuff_Feed.mono _ _ _ _
      | exact LeO.none _
      | refine LeO.ite ?_ ?_
      | refine LeO.bind ?_ (fun _ => ?_)
    · intro y0 y1 y2 y3 y4 y5 y6
      unfold portreevelaw07_StuffAnew.l0
      repeat' first
      | (with_reducible exact ih0 _ _ _ _ _)
      | (with_reducible exact ih1 _ _ _ _ _ _ _)
      | (with_reducible exact ih2 _ _ _ _ _ _ _ _)
      | (with_reducible exact portreevelaw07_shown.mono _)
      | (with_reducible exact portreeveref01_Row.mono _ _ _)
      | (with_reducible exact portreeveref07_Right.mono _ _ _)
      | (with_reducible exact portreeveref07_Same.mono _ _ _ _ _)
      | (with_reducible exact stuff_Feed.mono _ _ _ _)
      | (with_reducible exact LeO.refl _)
      | (with_reducible exact LeO.none _)
      | (with_reducible refine LeO.ite ?_ ?_)
      | (with_reducible refine LeO.bind ?_ (fun _ => ?_))
      | exact ih0 _ _ _ _ _
      | exact ih1 _ _ _ _ _ _ _
      | exact ih2 _ _ _ _ _ _ _ _
      | exact portreevelaw07_shown.mono _
      | exact portreeveref01_Row.mono _ _ _
      | exact portreeveref07_Right.mono _ _ _
      | exact portreeveref07_Same.mono _ _ _ _ _
      | exact stuff_Feed.mono _ _ _ _
      | exact LeO.none _
      | refine LeO.ite ?_ ?_
      | refine LeO.bind ?_ (fun _ => ?_)
    · intro y0 y1 y2 y3 y4 y5 y6 y7
      unfold portreevelaw07_StuffAnew.j2
      repeat' first
      | (with_reducible exact ih0 _ _ _ _ _)
      | (with_reducible exact ih1 _ _ _ _ _ _ _)
      | (with_reducible exact ih2 _ _ _ _ _ _ _ _)
      | (with_reducible exact portreevelaw07_shown.mono _)
      | (with_reducible exact portreeveref01_Row.mono _ _ _)
      | (with_reducible exact portreeveref07_Right.mono _ _ _)
      | (with_reducible exact portreeveref07_Same.mono _ _ _ _ _)
      | (with_reducible exact stuff_Feed.mono _ _ _ _)
      | (with_reducible exact LeO.refl _)
      | (with_reducible exact LeO.none _)
      | (with_reducible refine LeO.ite ?_ ?_)
      | (with_reducible refine LeO.bind ?_ (fun _ => ?_))
      | exact ih0 _ _ _ _ _
      | exact ih1 _ _ _ _ _ _ _
      | exact ih2 _ _ _ _ _ _ _ _
      | exact portreevelaw07_shown.mono _
      | exact portreeveref01_Row.mono _ _ _
      | exact portreeveref07_Right.mono _ _ _
      | exact portreeveref07_Same.mono _ _ _ _ _
      | exact stuff_Feed.mono _ _ _ _
      | exact LeO.none _
      | refine LeO.ite ?_ ?_
      | refine LeO.bind ?_ (fun _ => ?_)
theorem portreevelaw07_StuffAnew.mono : ∀ a0 a1 a2 k, LeO (portreevelaw07_StuffAnew.f k a0 a1 a2) (portreevelaw07_StuffAnew.f (k + 1) a0 a1 a2) := by
  intro a0 a1 a2 k
  obtain ⟨ih0, ih1, ih2⟩ := portreevelaw07_StuffAnew.mono_l k
  unfold portreevelaw07_StuffAnew.f
  repeat' first
      | (with_reducible exact ih0 _ _ _ _ _)
      | (with_reducible exact ih1 _ _ _ _ _ _ _)
      | (with_reducible exact ih2 _ _ _ _ _ _ _ _)
      | (with_reducible exact portreevelaw07_shown.mono _)
      | (with_reducible exact portreeveref01_Row.mono _ _ _)
      | (with_reducible exact portreeveref07_Right.mono _ _ _)
      | (with_reducible exact portreeveref07_Same.mono _ _ _ _ _)
      | (with_reducible exact stuff_Feed.mono _ _ _ _)
      | (with_reducible exact LeO.refl _)
      | (with_reducible exact LeO.none _)
      | (with_reducible refine LeO.ite ?_ ?_)
      | (with_reducible refine LeO.bind ?_ (fun _ => ?_))
      | exact ih0 _ _ _ _ _
      | exact ih1 _ _ _ _ _ _ _
      | exact ih2 _ _ _ _ _ _ _ _
      | exact portreevelaw07_shown.mono _
      | exact portreeveref01_Row.mono _ _ _
      | exact portreeveref07_Right.mono _ _ _
      | exact portreeveref07_Same.mono _ _ _ _ _
      | exact stuff_Feed.mono _ _ _ _
      | exact LeO.none _
      | refine LeO.ite ?_ ?_
      | refine LeO.bind ?_ (fun _ => ?_)
def portreevelaw07_StuffAnew.T11 : Bool × List (List Nat × List Nat) := (true, [([], []), ([], []), ([], []), ([1, 2], [1, 2]), ([3], [3]), ([0, 4], [0, 4]), ([5], [5]), ([6], [6]), ([6], [6]), ([6], [6]), ([], []), ([10, 7, 5, 0, 1, 2, 3, 4, 5, 6, 7, 10], [7, 10]), ([8, 11, 0, 1, 2, 3, 4, 5, 6, 7, 8, 10, 11], [8]), ([9, 12, 0, 1, 2, 3, 4, 5, 6, 7, 8, 9, 10, 11, 12], [9])])
def portreevelaw07_StuffAnew.B11 : List Nat := [0, 0, 0, 6, 14, 31, 63, 127, 127, 127, 0, 1279, 3583, 8191]
theorem portreevelaw07_StuffAnew.tab11 : rtab .any (opsOf Try.f8 11) = portreevelaw07_StuffAnew.T11 := by kernel_rfl
theorem portreevelaw07_StuffAnew.bits11 : waitsOk portreevelaw07_StuffAnew.T11.2 portreevelaw07_StuffAnew.B11 = true := by kernel_rfl
def portreevelaw07_StuffAnew.T12 : Bool × List (List Nat × List Nat) := (true, [([], []), ([], []), ([], []), ([1, 2], [1, 2]), ([3], [3]), ([0, 4], [0, 4]), ([5], [5]), ([6], [6]), ([6], [6]), ([6], [6]), ([], []), ([10, 7, 5, 0, 1, 2, 3, 4, 5, 6, 7, 10], [7, 10]), ([8, 11, 0, 1, 2, 3, 4, 5, 6, 7, 8, 10, 11], [8]), ([9, 12, 0, 1, 2, 3, 4, 5, 6, 7, 8, 9, 10, 11, 12], [9])])
def portreevelaw07_StuffAnew.B12 : List Nat := [0, 0, 0, 6, 14, 31, 63, 127, 127, 127, 0, 1279, 3583, 8191]
theorem portreevelaw07_StuffAnew.tab12 : rtab .any (opsOf Try.f8 12) = portreevelaw07_StuffAnew.T12 := by kernel_rfl
theorem portreevelaw07_StuffAnew.bits12 : waitsOk portreevelaw07_StuffAnew.T12.2 portreevelaw07_StuffAnew.B12 = true := by kernel_rfl
set_option maxHeartbeats 8000000 in
set_option maxRecDepth 100000 in
theorem portreevelaw07_StuffAnew.calls (k : Nat) (A0_0 : Option Addr) (c0_0 : Nat) (l0_0 : List Int) (a0_1 : Bool) (A1 : Option Addr) (c1 : Nat) (l1 : List Int) (r : Bool) (w : World) (hlaw_ : Aside0 (r = true)) (hr0_0 : Kd.C (Kd.int .u8) w A0_0 l0_0.length l0_0) (hc0_0 : l0_0.length ≤ c0_0) (hr1 : Kd.C (Kd.int .u8) w A1 l1.length l1) (hc1 : l1.length ≤ c1) (h : portreevelaw07_StuffAnew.f k l0_0 a0_1 l1 = some r) :
    Calls Try.prog 8 #[.agg #[.slice A0_0 l0_0.length c0_0, .bool a0_1], .slice A1 l1.length c1] w fun e w' => e = .returned (.bool r) ∧ Below w.heap.size w w' := by
  have hu37 := Try.underlying37
  have HR0_0 := Aside0.mk hr0_0
  have HC0_0 := Aside0.mk hc0_0
  clear hr0_0 hc0_0
  have HR1 := Aside0.mk hr1
  have HC1 := Aside0.mk hc1
  clear hr1 hc1
  have HB := Aside0.mk (Below.refl w.heap.size w)
  have H : ((portreevelaw07_shown.f k).bind fun t409 => ((portreeveref07_Right.f k l0_0 a0_1).bind fun t410 => (if t410 = true then (portreevelaw07_StuffAnew.j0 k l1 t409 (decide ((l1.length : Int) > 500)) l0_0 a0_1) else (portreevelaw07_StuffAnew.j0 k l1 t409 true l0_0 a0_1)))) = some r := h
  clear h
  replace H := Option.bind_eq_some_iff.mp H
  obtain ⟨t409, A30, H⟩ := H
  replace H : ((portreeveref07_Right.f k l0_0 a0_1).bind fun t410 => (if t410 = true then (portreevelaw07_StuffAnew.j0 k l1 t409 (decide ((l1.length : Int) > 500)) l0_0 a0_1) else (portreevelaw07_StuffAnew.j0 k l1 t409 true l0_0 a0_1))) = some r := H
  have A3 := Aside0.mk A30
  clear A30
  have HC4 := Aside0.mk H
  clear H
  go_enter Try.func8, Try.ntmps8
  go_upto_region 2 with (first | ((with_reducible refine gate_dst (N := 2) rfl ?_); (try (refine gate_guard (by rfl) ?_; dsimp only)); refine box_event ?hg (N := 2) ?hd (cs := #[.slice A0_0 l0_0.length c0_0, .bool a0_1]) (t := 37) ?hr ?_; (case hd => rfl); (case hg => rfl); (case hr => first | (go_simp; done) | (go_simp; rfl)); intro gb408 hg w5 hbox hb; have n0_ := Aside0.mk (below_step (by repeat (first | (with_reducible first | exact HB.out | apply pA | apply pN | apply pD) | exact HB.out)) hb); have n1_ := Aside0.mk (hbox); have n2_ := Aside0.mk ((by rw [hg]; exact (below_size (by repeat (first | (with_reducible first | exact HB.out | apply pA | apply pN | apply pD) | exact HB.out))) : w.heap.size ≤ gb408)); have n3_ := Aside0.mk ((by rw [hg]; exact (below_size (by repeat (first | (with_reducible first | exact HB.out | apply pA | apply pN | apply pD) | exact HB.out))) : w.heap.size ≤ gb408)); clear HB; have HB := n0_; have BK408 := n1_; have GW408 := n2_; have GE408 := n3_; clear n0_ n1_ n2_ n3_; clear hb hbox hg) | ((with_reducible refine gate_callee (f := 10) rfl ?_); refine goesL_ (some 17) rfl rfl Try.func10 (by kernel_rfl) rfl #[] rfl (by (try simp only [List.map_toArray, List.map_cons, List.map_nil]); first | done | rfl | (simp only [List.length_drop, List.length_take]; rfl)) ?_; (with_reducible refine (portreevelaw07_shown.calls k  t409 _ A3.out).mono ?_); rintro e w6 ⟨rfl, hb⟩; refine ⟨_, rfl, ?_⟩; have n0_ := Aside0.mk (blk_below (g := gb408) (o := .cells #[.slice A0_0 l0_0.length c0_0, .bool a0_1] 37 (0, 0)) (by (with_reducible repeat (first | refine qN ?_ _ | refine qD ?_ | refine qA ?_ _)); exact BK408.out) hb); have n1_ := Aside0.mk (below_step (by repeat (first | (with_reducible first | exact HB.out | apply pA | apply pN | apply pD | refine pS ?_ GE408.out) | exact HB.out)) hb); clear BK408; clear HB; have BK408 := n0_; have HB := n1_; clear n0_ n1_; (try clear hb); (try clear hb2); (try clear hk); (try clear hi)))
  (try simp only [Act.put, List.setIfInBounds_toArray, List.set_cons_zero, List.set_cons_succ])
  go_cut [25] (fun v25 wc => ∃ (kq : Nat) (x25_3 : Bool), v25 = .bool x25_3 ∧ Aside0 (portreevelaw07_StuffAnew.j0 kq l1 t409 x25_3 l0_0 a0_1 = some r) ∧ Aside0 (kq ≤ k) ∧ Aside0 (wc.heap[gb408]? = some (.cells #[(.slice A0_0 l0_0.length c0_0), .bool a0_1] 37 (0, 0))) ∧ Aside0 (Below w.heap.size w wc))
  case first =>
    have H := HC4.out
    clear HC4
    replace H := Option.bind_eq_some_iff.mp H
    obtain ⟨t410, A70, H⟩ := H
    replace H : (if t410 = true then (portreevelaw07_StuffAnew.j0 k l1 t409 (decide ((l1.length : Int) > 500)) l0_0 a0_1) else (portreevelaw07_StuffAnew.j0 k l1 t409 true l0_0 a0_1)) = some r := H
    have A7 := Aside0.mk A70
    clear A70
    by_cases c8 : t410 = true
    · subst c8
      have H1 : (portreevelaw07_StuffAnew.j0 k l1 t409 (decide ((l1.length : Int) > 500)) l0_0 a0_1) = some r := by rw [if_pos rfl] at H; exact H
      clear H
      have H := H1
      clear H1
      have H' := Aside0.mk H
      clear H
      have hcz9_0 : w6.cell? ⟨gb408, 0, none⟩ = some (.slice A0_0 l0_0.length c0_0) := (blk_cell BK408.out 0).trans rfl
      have hcz9_1 : w6.cell? ⟨gb408, 1, none⟩ = some (.bool a0_1) := (blk_cell BK408.out 1).trans rfl
      have hfz9_0 := blk_frozen BK408.out 0
      have hfz9_1 := blk_frozen BK408.out 1
      go_wp2_with (first | ((with_reducible refine gate_callee (f := 21) rfl ?_); refine goesL_ (some 19) rfl rfl Try.func21 (by kernel_rfl) rfl #[.agg #[.slice A0_0 l0_0.length c0_0, .bool a0_1]] rfl (by (try simp only [List.map_toArray, List.map_cons, List.map_nil]); first | done | rfl | (simp only [List.length_drop, List.length_take]; rfl)) ?_; (with_reducible refine (portreeveref07_Right.calls k _ _ l0_0 a0_1 true _ ?side1 ?side2 A7.out).mono ?_); (case side1 => repeat (first | exact (Kd.C_below HR0_0.out HB.out) | (with_reducible refine Kd.C_alloc ?_ _) | (with_reducible refine Kd.C_drewN ?_ _) | (with_reducible refine Kd.C_drew ?_))); (case side2 => exact HC0_0.out); rintro e w10 ⟨rfl, hb⟩; refine ⟨_, rfl, ?_⟩; have n0_ := Aside0.mk (blk_below (g := gb408) (o := .cells #[.slice A0_0 l0_0.length c0_0, .bool a0_1] 37 (0, 0)) (by (with_reducible repeat (first | refine qN ?_ _ | refine qD ?_ | refine qA ?_ _)); exact BK408.out) hb); have n1_ := Aside0.mk (below_step (by repeat (first | (with_reducible first | exact HB.out | apply pA | apply pN | apply pD | refine pS ?_ GE408.out) | exact HB.out)) hb); clear BK408; clear HB; have BK408 := n0_; have HB := n1_; clear n0_ n1_; (try clear hb); (try clear hb2); (try clear hk); (try clear hi)))
      go_meet
      case rel => exact ⟨_, (decide ((l1.length : Int) > 500)), (by first | rfl | (simp; done) | (simp [*]; done)), H', ⟨by first | omega | exact Nat.le_refl _⟩, ⟨by (with_reducible repeat (first | refine qN ?_ _ | refine qD ?_ | refine qA ?_ _)); exact BK408.out⟩, ⟨by repeat (first | (with_reducible first | exact HB.out | apply pA | apply pN | apply pD | refine pS ?_ GE408.out) | exact HB.out)⟩⟩
    · replace c8 := Bool.eq_false_iff.mpr c8
      subst c8
      have H1 : (portreevelaw07_StuffAnew.j0 k l1 t409 true l0_0 a0_1) = some r := by rw [if_neg (show ¬ (false = true) by decide)] at H; exact H
      clear H
      have H := H1
      clear H1
      have H' := Aside0.mk H
      clear H
      have hcz11_0 : w6.cell? ⟨gb408, 0, none⟩ = some (.slice A0_0 l0_0.length c0_0) := (blk_cell BK408.out 0).trans rfl
      have hcz11_1 : w6.cell? ⟨gb408, 1, none⟩ = some (.bool a0_1) := (blk_cell BK408.out 1).trans rfl
      have hfz11_0 := blk_frozen BK408.out 0
      have hfz11_1 := blk_frozen BK408.out 1
      go_wp2_with (first | ((with_reducible refine gate_callee (f := 21) rfl ?_); refine goesL_ (some 19) rfl rfl Try.func21 (by kernel_rfl) rfl #[.agg #[.slice A0_0 l0_0.length c0_0, .bool a0_1]] rfl (by (try simp only [List.map_toArray, List.map_cons, List.map_nil]); first | done | rfl | (simp only [List.length_drop, List.length_take]; rfl)) ?_; (with_reducible refine (portreeveref07_Right.calls k _ _ l0_0 a0_1 false _ ?side1 ?side2 A7.out).mono ?_); (case side1 => repeat (first | exact (Kd.C_below HR0_0.out HB.out) | (with_reducible refine Kd.C_alloc ?_ _) | (with_reducible refine Kd.C_drewN ?_ _) | (with_reducible refine Kd.C_drew ?_))); (case side2 => exact HC0_0.out); rintro e w12 ⟨rfl, hb⟩; refine ⟨_, rfl, ?_⟩; have n0_ := Aside0.mk (blk_below (g := gb408) (o := .cells #[.slice A0_0 l0_0.length c0_0, .bool a0_1] 37 (0, 0)) (by (with_reducible repeat (first | refine qN ?_ _ | refine qD ?_ | refine qA ?_ _)); exact BK408.out) hb); have n1_ := Aside0.mk (below_step (by repeat (first | (with_reducible first | exact HB.out | apply pA | apply pN | apply pD | refine pS ?_ GE408.out) | exact HB.out)) hb); clear BK408; clear HB; have BK408 := n0_; have HB := n1_; clear n0_ n1_; (try clear hb); (try clear hb2); (try clear hk); (try clear hi)))
      go_meet
      case rel => exact ⟨_, (true), (by first | rfl | (simp; done) | (simp [*]; done)), H', ⟨by first | omega | exact Nat.le_refl _⟩, ⟨by (with_reducible repeat (first | refine qN ?_ _ | refine qD ?_ | refine qA ?_ _)); exact BK408.out⟩, ⟨by repeat (first | (with_reducible first | exact HB.out | apply pA | apply pN | apply pD | refine pS ?_ GE408.out) | exact HB.out)⟩⟩
  case rest =>
    clear HC4
    try clear c1
    try clear c2
    try clear p2
    try clear c8
    try clear c10
    try clear hcz11_0
    try clear hcz11_1
    try clear hcz9_0
    try clear hcz9_1
    try clear hfz11_0
    try clear hfz11_1
    try clear hfz9_0
    try clear hfz9_1
    obtain ⟨kq, x25_3, rfl, HA, HJ3, BK408, HB⟩ := hcut
    cases kq with
    | zero => exact absurd HA.out (by simp [portreevelaw07_StuffAnew.j0])
    | succ kj3 =>
      have H := HA.out
      clear HA
      simp only [portreevelaw07_StuffAnew.j0] at H
      by_cases c13 : x25_3 = true
      · subst c13
        have H1 : (some t409) = some r := by rw [if_pos rfl] at H; exact H
        clear H
        have H := H1
        clear H1
        clear hlaw_
        obtain rfl := Option.some.inj H
        go_wp2
        go_ret
        exact ⟨by first | rfl | (simp [errW_none, errW_some] <;> rfl) | (simp [*, errW_none, errW_some] <;> rfl), by repeat (first | (with_reducible first | exact HB.out | apply pA | apply pN | apply pD | refine pS ?_ GE408.out) | exact HB.out)⟩
      · replace c13 := Bool.eq_false_iff.mpr c13
        subst c13
        have H1 : ((stuff_Feed.f kj3 l0_0 a0_1 126).bind fun bt411 => ((portreeveref07_Same.f kj3 bt411.1 bt411.2.1 ([] : List Int) false).bind fun t420 => (if t420 = true then (portreevelaw07_StuffAnew.l0 kj3 l1 t409 0 bt411.1 bt411.2.1 ([] : List Int) false) else (some false)))) = some r := by rw [if_neg (show ¬ (false = true) by decide)] at H; exact H
        clear H
        have H := H1
        clear H1
        replace H := Option.bind_eq_some_iff.mp H
        obtain ⟨⟨t411, t414, t415, t418⟩, A140, H⟩ := H
        replace H : ((portreeveref07_Same.f kj3 t411 t414 ([] : List Int) false).bind fun t420 => (if t420 = true then (portreevelaw07_StuffAnew.l0 kj3 l1 t409 0 t411 t414 ([] : List Int) false) else (some false))) = some r := H
        have A14 := Aside0.mk A140
        clear A140
        replace H := Option.bind_eq_some_iff.mp H
        obtain ⟨t420, A150, H⟩ := H
        replace H : (if t420 = true then (portreevelaw07_StuffAnew.l0 kj3 l1 t409 0 t411 t414 ([] : List Int) false) else (some false)) = some r := H
        have A15 := Aside0.mk A150
        clear A150
        by_cases c16 : t420 = true
        · subst c16
          have H1 : (portreevelaw07_StuffAnew.l0 kj3 l1 t409 0 t411 t414 ([] : List Int) false) = some r := by rw [if_pos rfl] at H; exact H
          clear H
          have H := H1
          clear H1
          have H' := Aside0.mk H
          clear H
          have hcz17_0 : wc.cell? ⟨gb408, 0, none⟩ = some (.slice A0_0 l0_0.length c0_0) := (blk_cell BK408.out 0).trans rfl
          have hcz17_1 : wc.cell? ⟨gb408, 1, none⟩ = some (.bool a0_1) := (blk_cell BK408.out 1).trans rfl
          have hfz17_0 := blk_frozen BK408.out 0
          have hfz17_1 := blk_frozen BK408.out 1
          go_wp2_with (first | ((with_reducible refine gate_callee (f := 22) rfl ?_); refine goesL_ (some 29) rfl rfl Try.func22 (by kernel_rfl) rfl #[.agg #[.slice A0_0 l0_0.length c0_0, .bool a0_1], .int .u8 126] rfl (by (try simp only [List.map_toArray, List.map_cons, List.map_nil]); first | done | rfl | (simp only [List.length_drop, List.length_take]; rfl)) ?_; (with_reducible refine (stuff_Feed.calls kj3 _ _ l0_0 a0_1 126 t411 t414 t415 t418 _ ?side1 ?side2 A14.out).mono ?_); (case side1 => repeat (first | exact (Kd.C_below HR0_0.out HB.out) | (with_reducible refine Kd.C_alloc ?_ _) | (with_reducible refine Kd.C_drewN ?_ _) | (with_reducible refine Kd.C_drew ?_))); (case side2 => exact HC0_0.out); rintro e w18 ⟨v412, v416, rfl, ho0, ho1, hb⟩; refine ⟨_, rfl, ?_⟩; have n0_ := Aside0.mk (Kd.R_lower ho0 (below_size (by repeat (first | (with_reducible first | exact HB.out | apply pA | apply pN | apply pD | refine pS ?_ GE408.out) | exact HB.out)))); have n1_ := Aside0.mk (Kd.R_lower ho1 (below_size (by repeat (first | (with_reducible first | exact HB.out | apply pA | apply pN | apply pD | refine pS ?_ GE408.out) | exact HB.out)))); have n2_ := Aside0.mk (blk_below (g := gb408) (o := .cells #[.slice A0_0 l0_0.length c0_0, .bool a0_1] 37 (0, 0)) (by (with_reducible repeat (first | refine qN ?_ _ | refine qD ?_ | refine qA ?_ _)); exact BK408.out) hb); have n3_ := Aside0.mk (below_step (by repeat (first | (with_reducible first | exact HB.out | apply pA | apply pN | apply pD | refine pS ?_ GE408.out) | exact HB.out)) hb); clear BK408; clear HB; have HO413 := n0_; have HO417 := n1_; have BK408 := n2_; have HB := n3_; clear n0_ n1_ n2_ n3_; (try clear hb); (try clear hb2); (try clear hk); (try clear hi); (try clear ho0); (try clear ho1)) | ((with_reducible refine gate_dst (N := 6) rfl ?_); (try (refine gate_guard (by rfl) ?_; dsimp only)); refine box_event ?hg (N := 6) ?hd (cs := #[.slice none 0 0, .bool false]) (t := 37) ?hr ?_; (case hd => rfl); (case hg => rfl); (case hr => first | (go_simp; done) | (go_simp; rfl)); intro gb419 hg w19 hbox hb; have n0_ := Aside0.mk (Kd.R_below (by (with_reducible repeat (first | apply Kd.R_alloc | apply Kd.R_drewN | apply Kd.R_drew)); exact HO413.out) hb); have n1_ := Aside0.mk (Kd.R_below (by (with_reducible repeat (first | apply Kd.R_alloc | apply Kd.R_drewN | apply Kd.R_drew)); exact HO417.out) hb); have n2_ := Aside0.mk (blk_below (g := gb408) (o := .cells #[.slice A0_0 l0_0.length c0_0, .bool a0_1] 37 (0, 0)) (by (with_reducible repeat (first | refine qN ?_ _ | refine qD ?_ | refine qA ?_ _)); exact BK408.out) hb); have n3_ := Aside0.mk (below_step (by repeat (first | (with_reducible first | exact HB.out | apply pA | apply pN | apply pD | refine pS ?_ GE408.out) | exact HB.out)) hb); have n4_ := Aside0.mk (hbox); have n5_ := Aside0.mk ((by rw [hg]; exact (below_size (by repeat (first | (with_reducible first | exact HB.out | apply pA | apply pN | apply pD | refine pS ?_ GE408.out) | exact HB.out))) : w.heap.size ≤ gb419)); have n6_ := Aside0.mk ((by rw [hg]; exact (below_size (by repeat (first | (with_reducible first | exact HB.out | apply pA | apply pN | apply pD | refine pS ?_ GE408.out) | exact HB.out))) : w.heap.size ≤ gb419)); have n7_ := Aside0.mk ((by rw [hg]; exact Nat.ne_of_lt (blk_lt (g := gb408) (o := .cells #[.slice A0_0 l0_0.length c0_0, .bool a0_1] 37 (0, 0)) (by (with_reducible repeat (first | refine qN ?_ _ | refine qD ?_ | refine qA ?_ _)); exact BK408.out)) : gb408 ≠ gb419)); have n8_ := Aside0.mk ((by rw [hg]; exact Nat.ne_of_gt (blk_lt (g := gb408) (o := .cells #[.slice A0_0 l0_0.length c0_0, .bool a0_1] 37 (0, 0)) (by (with_reducible repeat (first | refine qN ?_ _ | refine qD ?_ | refine qA ?_ _)); exact BK408.out)) : gb419 ≠ gb408)); clear HO413; clear HO417; clear BK408; clear HB; have HO413 := n0_; have HO417 := n1_; have BK408 := n2_; have HB := n3_; have BK419 := n4_; have GW419 := n5_; have GE419 := n6_; have NB408_419 := n7_; have NB419_408 := n8_; clear n0_ n1_ n2_ n3_ n4_ n5_ n6_ n7_ n8_; clear hb hbox hg; obtain ⟨Ao20, co20, eo20⟩ := Kd.R_slice HO413.out; subst eo20; have hnb21 := NB419_408.out; have hnc21 := NB408_419.out; have hcz22_0 : w19.cell? ⟨gb419, 0, none⟩ = some (.slice none 0 0) := (blk_cell BK419.out 0).trans rfl; have hcz22_1 : w19.cell? ⟨gb419, 1, none⟩ = some (.bool false) := (blk_cell BK419.out 1).trans rfl; have hfz22_0 := blk_frozen BK419.out 0; have hfz22_1 := blk_frozen BK419.out 1) | ((with_reducible refine gate_callee (f := 24) rfl ?_); refine goesL_ (some 35) rfl rfl Try.func24 (by kernel_rfl) rfl #[.agg #[.slice Ao20 t411.length co20, .bool t414], .agg #[.slice none 0 0, .bool false]] rfl (by (try simp only [List.map_toArray, List.map_cons, List.map_nil]); first | done | rfl | (simp only [List.length_drop, List.length_take]; rfl)) ?_; (refine (portreeveref07_Same.calls kj3 _ _ t411 t414 _ _ ([] : List Int) false true _ ?side1 ?side2 ?side3 ?side4 A15.out).mono ?_); (case side1 => refine (Kd.R_reads' (e := 5) (base := w.heap.size) (ok := fun k_ => some k_ ≠ (v416 : Value).ownBlock) (n := t411.length) (c := co20) ?_).2.2; exact (by (with_reducible repeat (first | apply Kd.R_alloc | apply Kd.R_drewN | apply Kd.R_drew)); exact (Kd.R_mono (Kd.R_far (p := ⟨gb419, 1, none⟩) (Kd.R_far (p := ⟨gb419, 0, none⟩) (Kd.R_types HO413.out BK419.out (by decide)) (fun _ hk => hk.2) (.slice Ao20 t411.length co20)) (fun _ hk => hk.2) (.bool t414)) (fun _ h_ => h_.1)))); (case side2 => exact (Kd.R_reads' HO413.out).2.1); (case side3 => exact Kd.C_nil _ _); (case side4 => exact Nat.le_refl _); rintro e w23 ⟨rfl, hb⟩; refine ⟨_, rfl, ?_⟩; have n0_ := Aside0.mk (Kd.R_below (by (with_reducible repeat (first | apply Kd.R_alloc | apply Kd.R_drewN | apply Kd.R_drew)); exact (Kd.R_mono (Kd.R_far (p := ⟨gb419, 1, none⟩) (Kd.R_far (p := ⟨gb419, 0, none⟩) (Kd.R_types HO413.out BK419.out (by decide)) (fun _ hk => hk.2) (.slice Ao20 t411.length co20)) (fun _ hk => hk.2) (.bool t414)) (fun _ h_ => h_.1))) hb); have n1_ := Aside0.mk (Kd.R_below (by (with_reducible repeat (first | apply Kd.R_alloc | apply Kd.R_drewN | apply Kd.R_drew)); exact (Kd.R_mono (Kd.R_far (p := ⟨gb419, 1, none⟩) (Kd.R_far (p := ⟨gb419, 0, none⟩) (Kd.R_types HO417.out BK419.out (by decide)) (fun _ hk => hk.2) (.slice Ao20 t411.length co20)) (fun _ hk => hk.2) (.bool t414)) (fun _ h_ => h_.1))) hb); have n2_ := Aside0.mk (blk_below (g := gb408) (o := .cells #[.slice A0_0 l0_0.length c0_0, .bool a0_1] 37 (0, 0)) (by (with_reducible repeat (first | refine qN ?_ _ | refine qD ?_ | refine qA ?_ _)); refine blk_far ?_ NB408_419.out _; (with_reducible repeat (first | refine qN ?_ _ | refine qD ?_ | refine qA ?_ _)); refine blk_far ?_ NB408_419.out _; (with_reducible repeat (first | refine qN ?_ _ | refine qD ?_ | refine qA ?_ _)); exact BK408.out) hb); have n3_ := Aside0.mk (blk_below (g := gb419) (o := .cells #[.slice Ao20 t411.length co20, .bool t414] 37 (0, 0)) (by (with_reducible repeat (first | refine qN ?_ _ | refine qD ?_ | refine qA ?_ _)); refine blk_put (cs := #[.slice Ao20 t411.length co20, .bool false]) ?_ 1 _ rfl; (with_reducible repeat (first | refine qN ?_ _ | refine qD ?_ | refine qA ?_ _)); refine blk_put (cs := #[.slice none 0 0, .bool false]) ?_ 0 _ rfl; (with_reducible repeat (first | refine qN ?_ _ | refine qD ?_ | refine qA ?_ _)); exact BK419.out) hb); have n4_ := Aside0.mk (below_step (by repeat (first | (with_reducible first | exact HB.out | apply pA | apply pN | apply pD | refine pS ?_ GE408.out | refine pS ?_ GE419.out) | exact HB.out)) hb); clear HO413; clear HO417; clear BK408; clear BK419; clear HB; have HO413 := n0_; have HO417 := n1_; have BK408 := n2_; have BK419 := n3_; have HB := n4_; clear n0_ n1_ n2_ n3_ n4_; (try clear hb); (try clear hb2); (try clear hk); (try clear hi)) | ((with_reducible refine gate_dst (N := 9) rfl ?_); (try (refine gate_guard (by rfl) ?_; dsimp only)); refine box_event ?hg (N := 9) ?hd (cs := #[.slice none 0 0, .bool false]) (t := 37) ?hr ?_; (case hd => rfl); (case hg => rfl); (case hr => first | (go_simp; done) | (go_simp; rfl)); intro gb421 hg w24 hbox hb; have n0_ := Aside0.mk (Kd.R_below (by (with_reducible repeat (first | apply Kd.R_alloc | apply Kd.R_drewN | apply Kd.R_drew)); exact HO413.out) hb); have n1_ := Aside0.mk (Kd.R_below (by (with_reducible repeat (first | apply Kd.R_alloc | apply Kd.R_drewN | apply Kd.R_drew)); exact HO417.out) hb); have n2_ := Aside0.mk (blk_below (g := gb408) (o := .cells #[.slice A0_0 l0_0.length c0_0, .bool a0_1] 37 (0, 0)) (by (with_reducible repeat (first | refine qN ?_ _ | refine qD ?_ | refine qA ?_ _)); exact BK408.out) hb); have n3_ := Aside0.mk (blk_below (g := gb419) (o := .cells #[.slice Ao20 t411.length co20, .bool t414] 37 (0, 0)) (by (with_reducible repeat (first | refine qN ?_ _ | refine qD ?_ | refine qA ?_ _)); exact BK419.out) hb); have n4_ := Aside0.mk (below_step (by repeat (first | (with_reducible first | exact HB.out | apply pA | apply pN | apply pD | refine pS ?_ GE408.out | refine pS ?_ GE419.out) | exact HB.out)) hb); have n5_ := Aside0.mk (hbox); have n6_ := Aside0.mk ((by rw [hg]; exact (below_size (by repeat (first | (with_reducible first | exact HB.out | apply pA | apply pN | apply pD | refine pS ?_ GE408.out | refine pS ?_ GE419.out) | exact HB.out))) : w.heap.size ≤ gb421)); have n7_ := Aside0.mk ((by rw [hg]; exact (below_size (by repeat (first | (with_reducible first | exact HB.out | apply pA | apply pN | apply pD | refine pS ?_ GE408.out | refine pS ?_ GE419.out) | exact HB.out))) : w.heap.size ≤ gb421)); have n8_ := Aside0.mk ((by rw [hg]; exact Nat.ne_of_lt (blk_lt (g := gb408) (o := .cells #[.slice A0_0 l0_0.length c0_0, .bool a0_1] 37 (0, 0)) (by (with_reducible repeat (first | refine qN ?_ _ | refine qD ?_ | refine qA ?_ _)); exact BK408.out)) : gb408 ≠ gb421)); have n9_ := Aside0.mk ((by rw [hg]; exact Nat.ne_of_gt (blk_lt (g := gb408) (o := .cells #[.slice A0_0 l0_0.length c0_0, .bool a0_1] 37 (0, 0)) (by (with_reducible repeat (first | refine qN ?_ _ | refine qD ?_ | refine qA ?_ _)); exact BK408.out)) : gb421 ≠ gb408)); have n10_ := Aside0.mk ((by rw [hg]; exact Nat.ne_of_lt (blk_lt (g := gb419) (o := .cells #[.slice Ao20 t411.length co20, .bool t414] 37 (0, 0)) (by (with_reducible repeat (first | refine qN ?_ _ | refine qD ?_ | refine qA ?_ _)); exact BK419.out)) : gb419 ≠ gb421)); have n11_ := Aside0.mk ((by rw [hg]; exact Nat.ne_of_gt (blk_lt (g := gb419) (o := .cells #[.slice Ao20 t411.length co20, .bool t414] 37 (0, 0)) (by (with_reducible repeat (first | refine qN ?_ _ | refine qD ?_ | refine qA ?_ _)); exact BK419.out)) : gb421 ≠ gb419)); clear HO413; clear HO417; clear BK408; clear BK419; clear HB; have HO413 := n0_; have HO417 := n1_; have BK408 := n2_; have BK419 := n3_; have HB := n4_; have BK421 := n5_; have GW421 := n6_; have GE421 := n7_; have NB408_421 := n8_; have NB421_408 := n9_; have NB419_421 := n10_; have NB421_419 := n11_; clear n0_ n1_ n2_ n3_ n4_ n5_ n6_ n7_ n8_ n9_ n10_ n11_; clear hb hbox hg; have hnb25 := NB421_408.out; have hnc25 := NB408_421.out; have hnb26 := NB421_419.out; have hnc26 := NB419_421.out; have hcz27_0 : w24.cell? ⟨gb421, 0, none⟩ = some (.slice none 0 0) := (blk_cell BK421.out 0).trans rfl; have hcz27_1 : w24.cell? ⟨gb421, 1, none⟩ = some (.bool false) := (blk_cell BK421.out 1).trans rfl; have hfz27_0 := blk_frozen BK421.out 0; have hfz27_1 := blk_frozen BK421.out 1))
          go_loopg [10] kj3 (fun kq v10 w' => ∃ (x10_2 : Int) (x420000_2 : List Int) (x420001_2 : Bool) (x422000_2 : List Int) (x422001_2 : Bool) (u420000 : Value) (u422000 : Value), v10 = .int .i64 x10_2 ∧ Aside0 (portreevelaw07_StuffAnew.l0 kq l1 t409 x10_2 x420000_2 x420001_2 x422000_2 x422001_2 = some r) ∧ Aside0 (kq ≤ kj3) ∧ Aside0 (Kd.R (Kd.int .u8) 5 w' w.heap.size (fun k_ => some k_ ≠ (u422000 : Value).ownBlock) u420000 x420000_2) ∧ Aside0 (Kd.R (Kd.int .u8) 5 w' w.heap.size (fun k_ => some k_ ≠ (u420000 : Value).ownBlock) u422000 x422000_2) ∧ Aside0 (w'.heap[gb408]? = some (.cells #[(.slice A0_0 l0_0.length c0_0), .bool a0_1] 37 (0, 0))) ∧ Aside0 (w'.heap[gb419]? = some (.cells #[u420000, .bool x420001_2] 37 (0, 0))) ∧ Aside0 (w'.heap[gb421]? = some (.cells #[u422000, .bool x422001_2] 37 (0, 0))) ∧ Aside0 (Below w.heap.size w w'))
          case atStart => exact ⟨(0), (t411), (t414), (([] : List Int)), (false), (.slice Ao20 t411.length co20), (.slice none 0 0), (by first | rfl | (simp; done) | (simp [*]; done)), H', ⟨Nat.le_refl _⟩, ⟨by (with_reducible repeat (first | apply Kd.R_alloc | apply Kd.R_drewN | apply Kd.R_drew)); exact Kd.R_mono (Kd.R_far (p := ⟨gb421, 1, none⟩) (Kd.R_far (p := ⟨gb421, 0, none⟩) (Kd.R_types HO413.out BK421.out (by decide)) (fun _ hk => hk.2) (.slice none 0 0)) (fun _ hk => hk.2) (.bool false)) (fun _ hk => (by simp [Value.ownBlock]))⟩, ⟨by first | exact Kd.R_nil _ _ _ _ _ | exact Kd.N_nil _ _ _ _ _ | exact Kd.V_nil _ _ _ _ _ | exact Kd.Q_nil _ _ _ _ _ | exact Kd.S_nil _ _ _ _ _⟩, ⟨by (with_reducible repeat (first | refine qN ?_ _ | refine qD ?_ | refine qA ?_ _)); refine blk_far ?_ NB408_421.out _; (with_reducible repeat (first | refine qN ?_ _ | refine qD ?_ | refine qA ?_ _)); refine blk_far ?_ NB408_421.out _; (with_reducible repeat (first | refine qN ?_ _ | refine qD ?_ | refine qA ?_ _)); exact BK408.out⟩, ⟨by (with_reducible repeat (first | refine qN ?_ _ | refine qD ?_ | refine qA ?_ _)); refine blk_far ?_ NB419_421.out _; (with_reducible repeat (first | refine qN ?_ _ | refine qD ?_ | refine qA ?_ _)); refine blk_far ?_ NB419_421.out _; (with_reducible repeat (first | refine qN ?_ _ | refine qD ?_ | refine qA ?_ _)); exact BK419.out⟩, ⟨by (with_reducible repeat (first | refine qN ?_ _ | refine qD ?_ | refine qA ?_ _)); refine blk_put (cs := #[.slice none 0 0, .bool false]) ?_ 1 _ rfl; (with_reducible repeat (first | refine qN ?_ _ | refine qD ?_ | refine qA ?_ _)); refine blk_put (cs := #[.slice none 0 0, .bool false]) ?_ 0 _ rfl; (with_reducible repeat (first | refine qN ?_ _ | refine qD ?_ | refine qA ?_ _)); exact BK421.out⟩, ⟨by repeat (first | (with_reducible first | exact HB.out | apply pA | apply pN | apply pD | refine pS ?_ GE408.out | refine pS ?_ GE419.out | refine pS ?_ GE421.out) | exact HB.out)⟩⟩
          case round =>
            clear H'
            try clear c1
            try clear c2
            try clear p2
            try clear c8
            try clear c10
            try clear c13
            try clear c16
            try clear c21
            try clear c22
            try clear c24
            try clear c25
            try clear c26
            try clear hcz11_0
            try clear hcz11_1
            try clear hcz17_0
            try clear hcz17_1
            try clear hcz22_0
            try clear hcz22_1
            try clear hcz27_0
            try clear hcz27_1
            try clear hcz9_0
            try clear hcz9_1
            try clear hfz11_0
            try clear hfz11_1
            try clear hfz17_0
            try clear hfz17_1
            try clear hfz22_0
            try clear hfz22_1
            try clear hfz27_0
            try clear hfz27_1
            try clear hfz9_0
            try clear hfz9_1
            try clear p2
            obtain ⟨x10_2, x420000_2, x420001_2, x422000_2, x422001_2, u420000, u422000, rfl, HA, HK2, HO_420000, HO_422000, BK408, BK419, BK421, HB⟩ := hrel
            cases gk with
            | zero => exact absurd HA.out (by simp [portreevelaw07_StuffAnew.l0])
            | succ k2 =>
              have H := HA.out
              clear HA
              simp only [portreevelaw07_StuffAnew.l0] at H
              by_cases c28 : x10_2 < (l1.length : Int)
              · rw [if_pos c28] at H
                have c28b0 : decide (x10_2 < (l1.length : Int)) = true := decide_eq_true c28
                clear c28
                by_cases c29 : 0 ≤ x10_2
                · rw [if_pos c29] at H
                  have c29b0 : decide (0 ≤ x10_2) = true := decide_eq_true c29
                  clear c29
                  replace H := Option.bind_eq_some_iff.mp H
                  obtain ⟨⟨t423, t426, t427, t430⟩, A300, H⟩ := H
                  replace H : ((stuff_Feed.f k2 x422000_2 x422001_2 (rd l1 x10_2)).bind fun bt433 => (if (t430 != bt433.2.2.2) = true then (portreevelaw07_StuffAnew.j2 k2 l1 t409 x10_2 true t423 t426 bt433.1 bt433.2.1) else ((portreeveref01_Row.f k2 t427 bt433.2.2.1).bind fun t442 => (if t442 = true then ((portreeveref07_Same.f k2 t423 t426 bt433.1 bt433.2.1).bind fun t443 => (portreevelaw07_StuffAnew.j2 k2 l1 t409 x10_2 (!t443) t423 t426 bt433.1 bt433.2.1)) else (portreevelaw07_StuffAnew.j2 k2 l1 t409 x10_2 true t423 t426 bt433.1 bt433.2.1))))) = some r := H
                  have A30 := Aside0.mk A300
                  clear A300
                  replace H := Option.bind_eq_some_iff.mp H
                  obtain ⟨⟨t433, t436, t437, t440⟩, A310, H⟩ := H
                  replace H : (if (t430 != t440) = true then (portreevelaw07_StuffAnew.j2 k2 l1 t409 x10_2 true t423 t426 t433 t436) else ((portreeveref01_Row.f k2 t427 t437).bind fun t442 => (if t442 = true then ((portreeveref07_Same.f k2 t423 t426 t433 t436).bind fun t443 => (portreevelaw07_StuffAnew.j2 k2 l1 t409 x10_2 (!t443) t423 t426 t433 t436)) else (portreevelaw07_StuffAnew.j2 k2 l1 t409 x10_2 true t423 t426 t433 t436)))) = some r := H
                  have A31 := Aside0.mk A310
                  clear A310
                  have HC32 := Aside0.mk H
                  clear H
                  obtain ⟨Ao33, co33, eo33⟩ := Kd.R_slice HO_420000.out
                  subst eo33
                  try go_wp2
                  have n0_ := Aside0.mk (Kd.R_drew HO_420000.out)
                  have n1_ := Aside0.mk (Kd.R_drew HO_422000.out)
                  have n2_ := Aside0.mk (qD BK408.out)
                  have n3_ := Aside0.mk (qD BK419.out)
                  have n4_ := Aside0.mk (qD BK421.out)
                  have n5_ := Aside0.mk (pD HB.out)
                  clear HO_420000
                  clear HO_422000
                  clear BK408
                  clear BK419
                  clear BK421
                  clear HB
                  have HO_420000 := n0_
                  have HO_422000 := n1_
                  have BK408 := n2_
                  have BK419 := n3_
                  have BK421 := n4_
                  have HB := n5_
                  clear n0_ n1_ n2_ n3_ n4_ n5_
                  have p422 : 0 ≤ (x10_2 : Int) := of_decide_eq_true (by first | (with_reducible assumption) | assumption)
                  have q422 : x10_2 < (l1.length : Int) := of_decide_eq_true (by first | (with_reducible assumption) | assumption)
                  obtain ⟨ad422, e422, hx422_0⟩ := Kd.at_int HR1.out x10_2 p422 q422
                  have hw422_0 := hx422_0
                  cases e422
                  replace hx422_0 := (HB.out.cell (World.block_lt_of_cell? w _ hx422_0)).trans hx422_0
                  replace p422 := eq_true p422
                  replace q422 := eq_true q422
                  refine start_ (n := 14) (S := fun w' => w'.cell? ⟨gb419, 0, none⟩ = some (.slice Ao33 x420000_2.length co33) ∧ w'.cell? ⟨gb419, 1, none⟩ = some (.bool x420001_2) ∧ w'.cell? (ad422.add (x10_2).toNat) = some (.int .u8 (rd l1 x10_2))) (ds := []) #[false, false, false, false, false, false, false, false, false, false, false, false, false, false] (by kernel_rfl) rfl rfl ⟨(blk_cell BK419.out 0).trans rfl, (blk_cell BK419.out 1).trans rfl, ((HB.out.cell (World.block_lt_of_cell? w _ hw422_0)).trans hw422_0)⟩ (fun hHeld => ?_); refine with_tabW portreevelaw07_StuffAnew.tab11 portreevelaw07_StuffAnew.bits11 (fun HT_ HW_ => ?_)
                  generalize wr.drew = w34 at HO_420000 HO_422000 BK408 BK419 BK421 HB hx422_0 hHeld ⊢
                  refine pure_ (i := 1) (N := some 46) (v := ?_) (a' := ?_) #[false, true, false, false, false, false, false, false, false, false, false, false, false, false] rfl rfl (any_of HT_.out (by kernel_rfl)) (fun _ _ _ h => h) (Or.inl ⟨by rfl, ?_⟩) ?_ ?_
                  rotate_left
                  · intro w'
                    go_simp
                    with_reducible rfl
                  rotate_left
                  · simp only [Act.put, List.setIfInBounds_toArray, List.set_cons_zero, List.set_cons_succ, i64_w, i32_w]
                    rfl
                  refine pure_ (i := 2) (N := some 47) (v := ?_) (a' := ?_) #[false, true, true, false, false, false, false, false, false, false, false, false, false, false] rfl rfl (any_of HT_.out (by kernel_rfl)) (fun _ _ _ h => h) (Or.inl ⟨by rfl, ?_⟩) ?_ ?_
                  rotate_left
                  · intro w'
                    go_simp
                    with_reducible rfl
                  rotate_left
                  · simp only [Act.put, List.setIfInBounds_toArray, List.set_cons_zero, List.set_cons_succ, i64_w, i32_w]
                    rfl
                  refine pure_ (i := 3) (N := some 48) (v := ?_) (a' := ?_) #[false, true, true, true, false, false, false, false, false, false, false, false, false, false] rfl rfl (any_of HT_.out (by kernel_rfl)) (fun _ _ _ h => h) (Or.inl ⟨by rfl, ?_⟩) ?_ ?_
                  rotate_left
                  · intro w'
                    go_simp
                    with_reducible rfl
                  rotate_left
                  · simp only [Act.put, List.setIfInBounds_toArray, List.set_cons_zero, List.set_cons_succ, i64_w, i32_w]
                    rfl
                  refine take_ (i := 0) (N := some 45) (v := ?_) (a' := ?_) #[true, true, true, true, false, false, false, false, false, false, false, false, false, false] rfl rfl (take_ofW HT_.out HW_.out (by kernel_rfl)) (fun _ _ _ h => h) (Or.inl ⟨by rfl, ?_⟩) hHeld ?_ ?_
                  rotate_left
                  · rintro w' ⟨s0, s1, s2⟩
                    go_simp
                    with_reducible rfl
                  rotate_left
                  · simp only [Act.put, List.setIfInBounds_toArray, List.set_cons_zero, List.set_cons_succ, i64_w, i32_w]
                    rfl
                  refine take_ (i := 4) (N := some 49) (v := ?_) (a' := ?_) #[true, true, true, true, true, false, false, false, false, false, false, false, false, false] rfl rfl (take_ofW HT_.out HW_.out (by kernel_rfl)) (fun _ _ _ h => h) (Or.inl ⟨by rfl, ?_⟩) hHeld ?_ ?_
                  rotate_left
                  · rintro w' ⟨s0, s1, s2⟩
                    go_simp
                    with_reducible rfl
                  rotate_left
                  · simp only [Act.put, List.setIfInBounds_toArray, List.set_cons_zero, List.set_cons_succ, i64_w, i32_w]
                    rfl
                  refine join_ (σ := Value × Value × Nat) 3 #[true, true, true, true, true, true, true, true, true, true, true, false, false, false] (fun s_ => [(50, .tuple #[.agg #[s_.1, .bool t426], s_.2.1, .bool t430]), (11, .pointer (some ⟨s_.2.2, 0, none⟩)), (44, .tuple #[.agg #[s_.1, .bool t426], s_.2.1, .bool t430]), (51, .agg #[s_.1, .bool t426]), (52, s_.2.1), (53, .bool t430)]) (fun s_ w' => (w'.cell? ⟨gb419, 0, none⟩ = some (.slice Ao33 x420000_2.length co33) ∧ w'.cell? ⟨gb419, 1, none⟩ = some (.bool x420001_2) ∧ w'.cell? (ad422.add (x10_2).toNat) = some (.int .u8 (rd l1 x10_2))) ∧ (Kd.R (Kd.int .u8) 5 w' w.heap.size (fun k_ => some k_ ≠ (s_.2.1 : Value).ownBlock ∧ some k_ ≠ (.slice Ao33 x420000_2.length co33 : Value).ownBlock ∧ some k_ ≠ (u422000 : Value).ownBlock) s_.1 t423) ∧ (Kd.R (Kd.int .u8) 5 w' w.heap.size (fun k_ => some k_ ≠ (s_.1 : Value).ownBlock ∧ some k_ ≠ (.slice Ao33 x420000_2.length co33 : Value).ownBlock ∧ some k_ ≠ (u422000 : Value).ownBlock) s_.2.1 t427) ∧ (Kd.R (Kd.int .u8) 5 w' w.heap.size (fun k_ => some k_ ≠ (s_.1 : Value).ownBlock ∧ some k_ ≠ (s_.2.1 : Value).ownBlock ∧ some k_ ≠ (u422000 : Value).ownBlock) (.slice Ao33 x420000_2.length co33) x420000_2) ∧ (Kd.R (Kd.int .u8) 5 w' w.heap.size (fun k_ => some k_ ≠ (s_.1 : Value).ownBlock ∧ some k_ ≠ (s_.2.1 : Value).ownBlock ∧ some k_ ≠ (.slice Ao33 x420000_2.length co33 : Value).ownBlock) u422000 x422000_2) ∧ (w'.heap[gb408]? = some (.cells #[.slice A0_0 l0_0.length c0_0, .bool a0_1] 37 (0, 0))) ∧ (w'.heap[gb419]? = some (.cells #[.slice Ao33 x420000_2.length co33, .bool x420001_2] 37 (0, 0))) ∧ (w'.heap[gb421]? = some (.cells #[u422000, .bool x422001_2] 37 (0, 0))) ∧ (w'.heap[s_.2.2]? = some (.cells #[.slice none 0 0, .bool false] 37 (0, 0))) ∧ (w.heap.size ≤ s_.2.2) ∧ (w.heap.size ≤ s_.2.2) ∧ (gb408 ≠ s_.2.2) ∧ (s_.2.2 ≠ gb408) ∧ (gb419 ≠ s_.2.2) ∧ (s_.2.2 ≠ gb419) ∧ (gb421 ≠ s_.2.2) ∧ (s_.2.2 ≠ gb421) ∧ (Below w.heap.size w w')) ?_ ?_
                  rotate_left
                  · intro hCont
                    refine two_ (i := 5) (j := 10) (Ni := some 50) (Nj := some 11) #[true, true, true, true, true, true, false, false, false, false, false, false, false, false] #[true, true, true, true, true, false, false, false, false, false, true, false, false, false] rfl rfl rfl rfl (two_of HT_.out (by kernel_rfl)) (by decide) (by decide) (fun K hK => ?_) (fun K hK => ?_)
                    · skip
                      refine goes_ Try.func22 (by kernel_rfl) rfl #[.agg #[.slice Ao33 x420000_2.length co33, .bool x420001_2], .int .u8 (rd l1 x10_2)] (by rfl) rfl rfl (by (try simp only [List.map_toArray, List.map_cons, List.map_nil]); first | done | rfl | (simp only [List.length_drop, List.length_take]; rfl)) ?_
                      with_reducible refine (stuff_Feed.calls k2 _ _ x420000_2 x420001_2 (rd l1 x10_2) t423 t426 t427 t430 _ ?side1 ?side2 A30.out).mono ?_
                      (case side1 => repeat (first | exact (Kd.R_reads' HO_420000.out).2.2 | (with_reducible refine Kd.C_alloc ?_ _) | (with_reducible refine Kd.C_drewN ?_ _) | (with_reducible refine Kd.C_drew ?_)))
                      (case side2 => exact (Kd.R_reads' HO_420000.out).2.1)
                      rintro e w35 ⟨v424, v428, rfl, ho0, ho1, hb⟩
                      refine ⟨_, rfl, ?_⟩
                      have n0_ := Aside0.mk (Kd.R_mono (Kd.R_told (Kd.R_told (Kd.R_old (by (with_reducible repeat (first | apply Kd.R_alloc | apply Kd.R_drewN | apply Kd.R_drew)); exact HO_420000.out) hb) (Kd.R_base ho0)) (Kd.R_base ho1)) (fun _ h_ => h_.1))
                      have n1_ := Aside0.mk (Kd.R_mono (Kd.R_told (Kd.R_told (Kd.R_old (by (with_reducible repeat (first | apply Kd.R_alloc | apply Kd.R_drewN | apply Kd.R_drew)); exact HO_422000.out) hb) (Kd.R_base ho0)) (Kd.R_base ho1)) (fun _ h_ => h_.1))
                      have n2_ := Aside0.mk (Kd.R_lower (Kd.R_new' (Kd.R_new' ho0 (Kd.R_lt (by (with_reducible repeat (first | apply Kd.R_alloc | apply Kd.R_drewN | apply Kd.R_drew)); exact HO_420000.out))) (Kd.R_lt (by (with_reducible repeat (first | apply Kd.R_alloc | apply Kd.R_drewN | apply Kd.R_drew)); exact HO_422000.out))) (below_size (by repeat (first | (with_reducible first | exact HB.out | apply pA | apply pN | apply pD | refine pS ?_ GE408.out | refine pS ?_ GE419.out | refine pS ?_ GE421.out) | exact HB.out))))
                      have n3_ := Aside0.mk (Kd.R_lower (Kd.R_new' (Kd.R_new' ho1 (Kd.R_lt (by (with_reducible repeat (first | apply Kd.R_alloc | apply Kd.R_drewN | apply Kd.R_drew)); exact HO_420000.out))) (Kd.R_lt (by (with_reducible repeat (first | apply Kd.R_alloc | apply Kd.R_drewN | apply Kd.R_drew)); exact HO_422000.out))) (below_size (by repeat (first | (with_reducible first | exact HB.out | apply pA | apply pN | apply pD | refine pS ?_ GE408.out | refine pS ?_ GE419.out | refine pS ?_ GE421.out) | exact HB.out))))
                      have n4_ := Aside0.mk (blk_below (g := gb408) (o := .cells #[.slice A0_0 l0_0.length c0_0, .bool a0_1] 37 (0, 0)) (by (with_reducible repeat (first | refine qN ?_ _ | refine qD ?_ | refine qA ?_ _)); exact BK408.out) hb)
                      have n5_ := Aside0.mk (blk_below (g := gb419) (o := .cells #[.slice Ao33 x420000_2.length co33, .bool x420001_2] 37 (0, 0)) (by (with_reducible repeat (first | refine qN ?_ _ | refine qD ?_ | refine qA ?_ _)); exact BK419.out) hb)
                      have n6_ := Aside0.mk (blk_below (g := gb421) (o := .cells #[u422000, .bool x422001_2] 37 (0, 0)) (by (with_reducible repeat (first | refine qN ?_ _ | refine qD ?_ | refine qA ?_ _)); exact BK421.out) hb)
                      have n7_ := Aside0.mk (below_step (by repeat (first | (with_reducible first | exact HB.out | apply pA | apply pN | apply pD | refine pS ?_ GE408.out | refine pS ?_ GE419.out | refine pS ?_ GE421.out) | exact HB.out)) hb)
                      clear HO_420000
                      clear HO_422000
                      clear BK408
                      clear BK419
                      clear BK421
                      clear HB
                      have HO_420000 := n0_
                      have HO_422000 := n1_
                      have HO425 := n2_
                      have HO429 := n3_
                      have BK408 := n4_
                      have BK419 := n5_
                      have BK421 := n6_
                      have HB := n7_
                      clear n0_ n1_ n2_ n3_ n4_ n5_ n6_ n7_
                      (try clear hb)
                      (try clear hb2)
                      (try clear hk)
                      (try clear hi)
                      (try clear ho0)
                      (try clear ho1)
                      refine hK.out _ _ ⟨(blk_cell BK419.out 0).trans rfl, (blk_cell BK419.out 1).trans rfl, ((HB.out.cell (World.block_lt_of_cell? w _ hw422_0)).trans hw422_0)⟩ (fun hHeld => ?_)
                      clear hK K
                      refine norm_ (a' := ?_) ?_ ?_
                      rotate_left
                      · show Act.put _ (some 50) _ = _
                        simp only [Act.put, List.setIfInBounds_toArray, List.set_cons_zero, List.set_cons_succ, i64_w, i32_w]
                        rfl
                      refine pure_ (i := 6) (N := some 44) (v := ?_) (a' := ?_) #[true, true, true, true, true, true, true, false, false, false, false, false, false, false] rfl rfl (any_of HT_.out (by kernel_rfl)) (fun _ _ _ h => h) (Or.inl ⟨by rfl, ?_⟩) ?_ ?_
                      rotate_left
                      · intro w'
                        go_simp
                        with_reducible rfl
                      rotate_left
                      · simp only [Act.put, List.setIfInBounds_toArray, List.set_cons_zero, List.set_cons_succ, i64_w, i32_w]
                        rfl
                      refine pure_ (i := 7) (N := some 51) (v := ?_) (a' := ?_) #[true, true, true, true, true, true, true, true, false, false, false, false, false, false] rfl rfl (any_of HT_.out (by kernel_rfl)) (fun _ _ _ h => h) (Or.inl ⟨by rfl, ?_⟩) ?_ ?_
                      rotate_left
                      · intro w'
                        go_simp
                        with_reducible rfl
                      rotate_left
                      · simp only [Act.put, List.setIfInBounds_toArray, List.set_cons_zero, List.set_cons_succ, i64_w, i32_w]
                        rfl
                      refine pure_ (i := 8) (N := some 52) (v := ?_) (a' := ?_) #[true, true, true, true, true, true, true, true, true, false, false, false, false, false] rfl rfl (any_of HT_.out (by kernel_rfl)) (fun _ _ _ h => h) (Or.inl ⟨by rfl, ?_⟩) ?_ ?_
                      rotate_left
                      · intro w'
                        go_simp
                        with_reducible rfl
                      rotate_left
                      · simp only [Act.put, List.setIfInBounds_toArray, List.set_cons_zero, List.set_cons_succ, i64_w, i32_w]
                        rfl
                      refine pure_ (i := 9) (N := some 53) (v := ?_) (a' := ?_) #[true, true, true, true, true, true, true, true, true, true, false, false, false, false] rfl rfl (any_of HT_.out (by kernel_rfl)) (fun _ _ _ h => h) (Or.inl ⟨by rfl, ?_⟩) ?_ ?_
                      rotate_left
                      · intro w'
                        go_simp
                        with_reducible rfl
                      rotate_left
                      · simp only [Act.put, List.setIfInBounds_toArray, List.set_cons_zero, List.set_cons_succ, i64_w, i32_w]
                        rfl
                      refine one_ (i := 10) (N := some 11) #[true, true, true, true, true, true, true, true, true, true, true, false, false, false] rfl rfl (one_of HT_.out (by kernel_rfl)) (by decide) (fun K hK => ?_)
                      refine box_step ?hg (N := 11) ?hd (cs := #[.slice none 0 0, .bool false]) (t := 37) ?hr ?_; (case hd => rfl); (case hg => rfl); (case hr => first | (go_simp; done) | (go_simp; rfl))
                      intro gb431 hg w36 hbox hb
                      have n0_ := Aside0.mk (Kd.R_below (by (with_reducible repeat (first | apply Kd.R_alloc | apply Kd.R_drewN | apply Kd.R_drew)); exact HO_420000.out) hb)
                      have n1_ := Aside0.mk (Kd.R_below (by (with_reducible repeat (first | apply Kd.R_alloc | apply Kd.R_drewN | apply Kd.R_drew)); exact HO_422000.out) hb)
                      have n2_ := Aside0.mk (Kd.R_below (by (with_reducible repeat (first | apply Kd.R_alloc | apply Kd.R_drewN | apply Kd.R_drew)); exact HO425.out) hb)
                      have n3_ := Aside0.mk (Kd.R_below (by (with_reducible repeat (first | apply Kd.R_alloc | apply Kd.R_drewN | apply Kd.R_drew)); exact HO429.out) hb)
                      have n4_ := Aside0.mk (blk_below (g := gb408) (o := .cells #[.slice A0_0 l0_0.length c0_0, .bool a0_1] 37 (0, 0)) (by (with_reducible repeat (first | refine qN ?_ _ | refine qD ?_ | refine qA ?_ _)); exact BK408.out) hb)
                      have n5_ := Aside0.mk (blk_below (g := gb419) (o := .cells #[.slice Ao33 x420000_2.length co33, .bool x420001_2] 37 (0, 0)) (by (with_reducible repeat (first | refine qN ?_ _ | refine qD ?_ | refine qA ?_ _)); exact BK419.out) hb)
                      have n6_ := Aside0.mk (blk_below (g := gb421) (o := .cells #[u422000, .bool x422001_2] 37 (0, 0)) (by (with_reducible repeat (first | refine qN ?_ _ | refine qD ?_ | refine qA ?_ _)); exact BK421.out) hb)
                      have n7_ := Aside0.mk (below_step (by repeat (first | (with_reducible first | exact HB.out | apply pA | apply pN | apply pD | refine pS ?_ GE408.out | refine pS ?_ GE419.out | refine pS ?_ GE421.out) | exact HB.out)) hb)
                      have n8_ := Aside0.mk (hbox)
                      have n9_ := Aside0.mk ((by rw [hg]; exact (below_size (by repeat (first | (with_reducible first | exact HB.out | apply pA | apply pN | apply pD | refine pS ?_ GE408.out | refine pS ?_ GE419.out | refine pS ?_ GE421.out) | exact HB.out))) : w.heap.size ≤ gb431))
                      have n10_ := Aside0.mk ((by rw [hg]; exact (below_size (by repeat (first | (with_reducible first | exact HB.out | apply pA | apply pN | apply pD | refine pS ?_ GE408.out | refine pS ?_ GE419.out | refine pS ?_ GE421.out) | exact HB.out))) : w.heap.size ≤ gb431))
                      have n11_ := Aside0.mk ((by rw [hg]; exact Nat.ne_of_lt (blk_lt (g := gb408) (o := .cells #[.slice A0_0 l0_0.length c0_0, .bool a0_1] 37 (0, 0)) (by (with_reducible repeat (first | refine qN ?_ _ | refine qD ?_ | refine qA ?_ _)); exact BK408.out)) : gb408 ≠ gb431))
                      have n12_ := Aside0.mk ((by rw [hg]; exact Nat.ne_of_gt (blk_lt (g := gb408) (o := .cells #[.slice A0_0 l0_0.length c0_0, .bool a0_1] 37 (0, 0)) (by (with_reducible repeat (first | refine qN ?_ _ | refine qD ?_ | refine qA ?_ _)); exact BK408.out)) : gb431 ≠ gb408))
                      have n13_ := Aside0.mk ((by rw [hg]; exact Nat.ne_of_lt (blk_lt (g := gb419) (o := .cells #[.slice Ao33 x420000_2.length co33, .bool x420001_2] 37 (0, 0)) (by (with_reducible repeat (first | refine qN ?_ _ | refine qD ?_ | refine qA ?_ _)); exact BK419.out)) : gb419 ≠ gb431))
                      have n14_ := Aside0.mk ((by rw [hg]; exact Nat.ne_of_gt (blk_lt (g := gb419) (o := .cells #[.slice Ao33 x420000_2.length co33, .bool x420001_2] 37 (0, 0)) (by (with_reducible repeat (first | refine qN ?_ _ | refine qD ?_ | refine qA ?_ _)); exact BK419.out)) : gb431 ≠ gb419))
                      have n15_ := Aside0.mk ((by rw [hg]; exact Nat.ne_of_lt (blk_lt (g := gb421) (o := .cells #[u422000, .bool x422001_2] 37 (0, 0)) (by (with_reducible repeat (first | refine qN ?_ _ | refine qD ?_ | refine qA ?_ _)); exact BK421.out)) : gb421 ≠ gb431))
                      have n16_ := Aside0.mk ((by rw [hg]; exact Nat.ne_of_gt (blk_lt (g := gb421) (o := .cells #[u422000, .bool x422001_2] 37 (0, 0)) (by (with_reducible repeat (first | refine qN ?_ _ | refine qD ?_ | refine qA ?_ _)); exact BK421.out)) : gb431 ≠ gb421))
                      clear HO_420000
                      clear HO_422000
                      clear HO425
                      clear HO429
                      clear BK408
                      clear BK419
                      clear BK421
                      clear HB
                      have HO_420000 := n0_
                      have HO_422000 := n1_
                      have HO425 := n2_
                      have HO429 := n3_
                      have BK408 := n4_
                      have BK419 := n5_
                      have BK421 := n6_
                      have HB := n7_
                      have BK431 := n8_
                      have GW431 := n9_
                      have GE431 := n10_
                      have NB408_431 := n11_
                      have NB431_408 := n12_
                      have NB419_431 := n13_
                      have NB431_419 := n14_
                      have NB421_431 := n15_
                      have NB431_421 := n16_
                      clear n0_ n1_ n2_ n3_ n4_ n5_ n6_ n7_ n8_ n9_ n10_ n11_ n12_ n13_ n14_ n15_ n16_
                      clear hb hbox hg
                      refine hK.out _ _ ⟨(blk_cell BK419.out 0).trans rfl, (blk_cell BK419.out 1).trans rfl, ((HB.out.cell (World.block_lt_of_cell? w _ hw422_0)).trans hw422_0)⟩ (fun hHeld => ?_)
                      clear hK K
                      refine norm_ (a' := ?_) ?_ ?_
                      rotate_left
                      · show Act.put _ (some 11) _ = _
                        simp only [Act.put, List.setIfInBounds_toArray, List.set_cons_zero, List.set_cons_succ, i64_w, i32_w]
                        rfl
                      exact norm_ (by simp only [putAll, Act.put, List.setIfInBounds_toArray, List.set_cons_zero, List.set_cons_succ]) (hCont (v424, v428, gb431) _ ⟨hHeld, (by (with_reducible repeat (first | apply Kd.R_alloc | apply Kd.R_drewN | apply Kd.R_drew)); exact Kd.R_mono HO425.out (fun _ hk => ⟨hk.1.1, ⟨hk.1.2, hk.2⟩⟩)), (by (with_reducible repeat (first | apply Kd.R_alloc | apply Kd.R_drewN | apply Kd.R_drew)); exact Kd.R_mono HO429.out (fun _ hk => ⟨hk.1.1, ⟨hk.1.2, hk.2⟩⟩)), (by (with_reducible repeat (first | apply Kd.R_alloc | apply Kd.R_drewN | apply Kd.R_drew)); exact Kd.R_mono HO_420000.out (fun _ hk => ⟨hk.1.2, ⟨hk.2, hk.1.1⟩⟩)), (by (with_reducible repeat (first | apply Kd.R_alloc | apply Kd.R_drewN | apply Kd.R_drew)); exact Kd.R_mono HO_422000.out (fun _ hk => ⟨hk.1.2, ⟨hk.2, hk.1.1⟩⟩)), (by (with_reducible repeat (first | refine qN ?_ _ | refine qD ?_ | refine qA ?_ _)); exact BK408.out), (by (with_reducible repeat (first | refine qN ?_ _ | refine qD ?_ | refine qA ?_ _)); exact BK419.out), (by (with_reducible repeat (first | refine qN ?_ _ | refine qD ?_ | refine qA ?_ _)); exact BK421.out), (by (with_reducible repeat (first | refine qN ?_ _ | refine qD ?_ | refine qA ?_ _)); exact BK431.out), GW431.out, GE431.out, NB408_431.out, NB431_408.out, NB419_431.out, NB431_419.out, NB421_431.out, NB431_421.out, (by repeat (first | (with_reducible first | exact HB.out | apply pA | apply pN | apply pD | refine pS ?_ GE408.out | refine pS ?_ GE419.out | refine pS ?_ GE421.out | refine pS ?_ GE431.out) | exact HB.out))⟩)
                    · skip
                      refine box_step ?hg (N := 11) ?hd (cs := #[.slice none 0 0, .bool false]) (t := 37) ?hr ?_; (case hd => rfl); (case hg => rfl); (case hr => first | (go_simp; done) | (go_simp; rfl))
                      intro gb431 hg w35 hbox hb
                      have n0_ := Aside0.mk (Kd.R_below (by (with_reducible repeat (first | apply Kd.R_alloc | apply Kd.R_drewN | apply Kd.R_drew)); exact HO_420000.out) hb)
                      have n1_ := Aside0.mk (Kd.R_below (by (with_reducible repeat (first | apply Kd.R_alloc | apply Kd.R_drewN | apply Kd.R_drew)); exact HO_422000.out) hb)
                      have n2_ := Aside0.mk (blk_below (g := gb408) (o := .cells #[.slice A0_0 l0_0.length c0_0, .bool a0_1] 37 (0, 0)) (by (with_reducible repeat (first | refine qN ?_ _ | refine qD ?_ | refine qA ?_ _)); exact BK408.out) hb)
                      have n3_ := Aside0.mk (blk_below (g := gb419) (o := .cells #[.slice Ao33 x420000_2.length co33, .bool x420001_2] 37 (0, 0)) (by (with_reducible repeat (first | refine qN ?_ _ | refine qD ?_ | refine qA ?_ _)); exact BK419.out) hb)
                      have n4_ := Aside0.mk (blk_below (g := gb421) (o := .cells #[u422000, .bool x422001_2] 37 (0, 0)) (by (with_reducible repeat (first | refine qN ?_ _ | refine qD ?_ | refine qA ?_ _)); exact BK421.out) hb)
                      have n5_ := Aside0.mk (below_step (by repeat (first | (with_reducible first | exact HB.out | apply pA | apply pN | apply pD | refine pS ?_ GE408.out | refine pS ?_ GE419.out | refine pS ?_ GE421.out) | exact HB.out)) hb)
                      have n6_ := Aside0.mk (hbox)
                      have n7_ := Aside0.mk ((by rw [hg]; exact (below_size (by repeat (first | (with_reducible first | exact HB.out | apply pA | apply pN | apply pD | refine pS ?_ GE408.out | refine pS ?_ GE419.out | refine pS ?_ GE421.out) | exact HB.out))) : w.heap.size ≤ gb431))
                      have n8_ := Aside0.mk ((by rw [hg]; exact (below_size (by repeat (first | (with_reducible first | exact HB.out | apply pA | apply pN | apply pD | refine pS ?_ GE408.out | refine pS ?_ GE419.out | refine pS ?_ GE421.out) | exact HB.out))) : w.heap.size ≤ gb431))
                      have n9_ := Aside0.mk ((by rw [hg]; exact Nat.ne_of_lt (blk_lt (g := gb408) (o := .cells #[.slice A0_0 l0_0.length c0_0, .bool a0_1] 37 (0, 0)) (by (with_reducible repeat (first | refine qN ?_ _ | refine qD ?_ | refine qA ?_ _)); exact BK408.out)) : gb408 ≠ gb431))
                      have n10_ := Aside0.mk ((by rw [hg]; exact Nat.ne_of_gt (blk_lt (g := gb408) (o := .cells #[.slice A0_0 l0_0.length c0_0, .bool a0_1] 37 (0, 0)) (by (with_reducible repeat (first | refine qN ?_ _ | refine qD ?_ | refine qA ?_ _)); exact BK408.out)) : gb431 ≠ gb408))
                      have n11_ := Aside0.mk ((by rw [hg]; exact Nat.ne_of_lt (blk_lt (g := gb419) (o := .cells #[.slice Ao33 x420000_2.length co33, .bool x420001_2] 37 (0, 0)) (by (with_reducible repeat (first | refine qN ?_ _ | refine qD ?_ | refine qA ?_ _)); exact BK419.out)) : gb419 ≠ gb431))
                      have n12_ := Aside0.mk ((by rw [hg]; exact Nat.ne_of_gt (blk_lt (g := gb419) (o := .cells #[.slice Ao33 x420000_2.length co33, .bool x420001_2] 37 (0, 0)) (by (with_reducible repeat (first | refine qN ?_ _ | refine qD ?_ | refine qA ?_ _)); exact BK419.out)) : gb431 ≠ gb419))
                      have n13_ := Aside0.mk ((by rw [hg]; exact Nat.ne_of_lt (blk_lt (g := gb421) (o := .cells #[u422000, .bool x422001_2] 37 (0, 0)) (by (with_reducible repeat (first | refine qN ?_ _ | refine qD ?_ | refine qA ?_ _)); exact BK421.out)) : gb421 ≠ gb431))
                      have n14_ := Aside0.mk ((by rw [hg]; exact Nat.ne_of_gt (blk_lt (g := gb421) (o := .cells #[u422000, .bool x422001_2] 37 (0, 0)) (by (with_reducible repeat (first | refine qN ?_ _ | refine qD ?_ | refine qA ?_ _)); exact BK421.out)) : gb431 ≠ gb421))
                      clear HO_420000
                      clear HO_422000
                      clear BK408
                      clear BK419
                      clear BK421
                      clear HB
                      have HO_420000 := n0_
                      have HO_422000 := n1_
                      have BK408 := n2_
                      have BK419 := n3_
                      have BK421 := n4_
                      have HB := n5_
                      have BK431 := n6_
                      have GW431 := n7_
                      have GE431 := n8_
                      have NB408_431 := n9_
                      have NB431_408 := n10_
                      have NB419_431 := n11_
                      have NB431_419 := n12_
                      have NB421_431 := n13_
                      have NB431_421 := n14_
                      clear n0_ n1_ n2_ n3_ n4_ n5_ n6_ n7_ n8_ n9_ n10_ n11_ n12_ n13_ n14_
                      clear hb hbox hg
                      refine hK.out _ _ ⟨(blk_cell BK419.out 0).trans rfl, (blk_cell BK419.out 1).trans rfl, ((HB.out.cell (World.block_lt_of_cell? w _ hw422_0)).trans hw422_0)⟩ (fun hHeld => ?_)
                      clear hK K
                      refine norm_ (a' := ?_) ?_ ?_
                      rotate_left
                      · show Act.put _ (some 11) _ = _
                        simp only [Act.put, List.setIfInBounds_toArray, List.set_cons_zero, List.set_cons_succ, i64_w, i32_w]
                        rfl
                      refine one_ (i := 5) (N := some 50) #[true, true, true, true, true, true, false, false, false, false, true, false, false, false] rfl rfl (one_of HT_.out (by kernel_rfl)) (by decide) (fun K hK => ?_)
                      refine goes_ Try.func22 (by kernel_rfl) rfl #[.agg #[.slice Ao33 x420000_2.length co33, .bool x420001_2], .int .u8 (rd l1 x10_2)] (by rfl) rfl rfl (by (try simp only [List.map_toArray, List.map_cons, List.map_nil]); first | done | rfl | (simp only [List.length_drop, List.length_take]; rfl)) ?_
                      with_reducible refine (stuff_Feed.calls k2 _ _ x420000_2 x420001_2 (rd l1 x10_2) t423 t426 t427 t430 _ ?side1 ?side2 A30.out).mono ?_
                      (case side1 => repeat (first | exact (Kd.R_reads' HO_420000.out).2.2 | (with_reducible refine Kd.C_alloc ?_ _) | (with_reducible refine Kd.C_drewN ?_ _) | (with_reducible refine Kd.C_drew ?_)))
                      (case side2 => exact (Kd.R_reads' HO_420000.out).2.1)
                      rintro e w36 ⟨v424, v428, rfl, ho0, ho1, hb⟩
                      refine ⟨_, rfl, ?_⟩
                      have n0_ := Aside0.mk (Kd.R_mono (Kd.R_told (Kd.R_told (Kd.R_old (by (with_reducible repeat (first | apply Kd.R_alloc | apply Kd.R_drewN | apply Kd.R_drew)); exact HO_420000.out) hb) (Kd.R_base ho0)) (Kd.R_base ho1)) (fun _ h_ => h_.1))
                      have n1_ := Aside0.mk (Kd.R_mono (Kd.R_told (Kd.R_told (Kd.R_old (by (with_reducible repeat (first | apply Kd.R_alloc | apply Kd.R_drewN | apply Kd.R_drew)); exact HO_422000.out) hb) (Kd.R_base ho0)) (Kd.R_base ho1)) (fun _ h_ => h_.1))
                      have n2_ := Aside0.mk (Kd.R_lower (Kd.R_new' (Kd.R_new' ho0 (Kd.R_lt (by (with_reducible repeat (first | apply Kd.R_alloc | apply Kd.R_drewN | apply Kd.R_drew)); exact HO_420000.out))) (Kd.R_lt (by (with_reducible repeat (first | apply Kd.R_alloc | apply Kd.R_drewN | apply Kd.R_drew)); exact HO_422000.out))) (below_size (by repeat (first | (with_reducible first | exact HB.out | apply pA | apply pN | apply pD | refine pS ?_ GE408.out | refine pS ?_ GE419.out | refine pS ?_ GE421.out | refine pS ?_ GE431.out) | exact HB.out))))
                      have n3_ := Aside0.mk (Kd.R_lower (Kd.R_new' (Kd.R_new' ho1 (Kd.R_lt (by (with_reducible repeat (first | apply Kd.R_alloc | apply Kd.R_drewN | apply Kd.R_drew)); exact HO_420000.out))) (Kd.R_lt (by (with_reducible repeat (first | apply Kd.R_alloc | apply Kd.R_drewN | apply Kd.R_drew)); exact HO_422000.out))) (below_size (by repeat (first | (with_reducible first | exact HB.out | apply pA | apply pN | apply pD | refine pS ?_ GE408.out | refine pS ?_ GE419.out | refine pS ?_ GE421.out | refine pS ?_ GE431.out) | exact HB.out))))
                      have n4_ := Aside0.mk (blk_below (g := gb408) (o := .cells #[.slice A0_0 l0_0.length c0_0, .bool a0_1] 37 (0, 0)) (by (with_reducible repeat (first | refine qN ?_ _ | refine qD ?_ | refine qA ?_ _)); exact BK408.out) hb)
                      have n5_ := Aside0.mk (blk_below (g := gb419) (o := .cells #[.slice Ao33 x420000_2.length co33, .bool x420001_2] 37 (0, 0)) (by (with_reducible repeat (first | refine qN ?_ _ | refine qD ?_ | refine qA ?_ _)); exact BK419.out) hb)
                      have n6_ := Aside0.mk (blk_below (g := gb421) (o := .cells #[u422000, .bool x422001_2] 37 (0, 0)) (by (with_reducible repeat (first | refine qN ?_ _ | refine qD ?_ | refine qA ?_ _)); exact BK421.out) hb)
                      have n7_ := Aside0.mk (blk_below (g := gb431) (o := .cells #[.slice none 0 0, .bool false] 37 (0, 0)) (by (with_reducible repeat (first | refine qN ?_ _ | refine qD ?_ | refine qA ?_ _)); exact BK431.out) hb)
                      have n8_ := Aside0.mk (below_step (by repeat (first | (with_reducible first | exact HB.out | apply pA | apply pN | apply pD | refine pS ?_ GE408.out | refine pS ?_ GE419.out | refine pS ?_ GE421.out | refine pS ?_ GE431.out) | exact HB.out)) hb)
                      clear HO_420000
                      clear HO_422000
                      clear BK408
                      clear BK419
                      clear BK421
                      clear BK431
                      clear HB
                      have HO_420000 := n0_
                      have HO_422000 := n1_
                      have HO425 := n2_
                      have HO429 := n3_
                      have BK408 := n4_
                      have BK419 := n5_
                      have BK421 := n6_
                      have BK431 := n7_
                      have HB := n8_
                      clear n0_ n1_ n2_ n3_ n4_ n5_ n6_ n7_ n8_
                      (try clear hb)
                      (try clear hb2)
                      (try clear hk)
                      (try clear hi)
                      (try clear ho0)
                      (try clear ho1)
                      refine hK.out _ _ ⟨(blk_cell BK419.out 0).trans rfl, (blk_cell BK419.out 1).trans rfl, ((HB.out.cell (World.block_lt_of_cell? w _ hw422_0)).trans hw422_0)⟩ (fun hHeld => ?_)
                      clear hK K
                      refine norm_ (a' := ?_) ?_ ?_
                      rotate_left
                      · show Act.put _ (some 50) _ = _
                        simp only [Act.put, List.setIfInBounds_toArray, List.set_cons_zero, List.set_cons_succ, i64_w, i32_w]
                        rfl
                      refine pure_ (i := 6) (N := some 44) (v := ?_) (a' := ?_) #[true, true, true, true, true, true, true, false, false, false, true, false, false, false] rfl rfl (any_of HT_.out (by kernel_rfl)) (fun _ _ _ h => h) (Or.inl ⟨by rfl, ?_⟩) ?_ ?_
                      rotate_left
                      · intro w'
                        go_simp
                        with_reducible rfl
                      rotate_left
                      · simp only [Act.put, List.setIfInBounds_toArray, List.set_cons_zero, List.set_cons_succ, i64_w, i32_w]
                        rfl
                      refine pure_ (i := 7) (N := some 51) (v := ?_) (a' := ?_) #[true, true, true, true, true, true, true, true, false, false, true, false, false, false] rfl rfl (any_of HT_.out (by kernel_rfl)) (fun _ _ _ h => h) (Or.inl ⟨by rfl, ?_⟩) ?_ ?_
                      rotate_left
                      · intro w'
                        go_simp
                        with_reducible rfl
                      rotate_left
                      · simp only [Act.put, List.setIfInBounds_toArray, List.set_cons_zero, List.set_cons_succ, i64_w, i32_w]
                        rfl
                      refine pure_ (i := 8) (N := some 52) (v := ?_) (a' := ?_) #[true, true, true, true, true, true, true, true, true, false, true, false, false, false] rfl rfl (any_of HT_.out (by kernel_rfl)) (fun _ _ _ h => h) (Or.inl ⟨by rfl, ?_⟩) ?_ ?_
                      rotate_left
                      · intro w'
                        go_simp
                        with_reducible rfl
                      rotate_left
                      · simp only [Act.put, List.setIfInBounds_toArray, List.set_cons_zero, List.set_cons_succ, i64_w, i32_w]
                        rfl
                      refine pure_ (i := 9) (N := some 53) (v := ?_) (a' := ?_) #[true, true, true, true, true, true, true, true, true, true, true, false, false, false] rfl rfl (any_of HT_.out (by kernel_rfl)) (fun _ _ _ h => h) (Or.inl ⟨by rfl, ?_⟩) ?_ ?_
                      rotate_left
                      · intro w'
                        go_simp
                        with_reducible rfl
                      rotate_left
                      · simp only [Act.put, List.setIfInBounds_toArray, List.set_cons_zero, List.set_cons_succ, i64_w, i32_w]
                        rfl
                      exact norm_ (by simp only [putAll, Act.put, List.setIfInBounds_toArray, List.set_cons_zero, List.set_cons_succ]) (hCont (v424, v428, gb431) _ ⟨hHeld, (by (with_reducible repeat (first | apply Kd.R_alloc | apply Kd.R_drewN | apply Kd.R_drew)); exact Kd.R_mono HO425.out (fun _ hk => ⟨hk.1.1, ⟨hk.1.2, hk.2⟩⟩)), (by (with_reducible repeat (first | apply Kd.R_alloc | apply Kd.R_drewN | apply Kd.R_drew)); exact Kd.R_mono HO429.out (fun _ hk => ⟨hk.1.1, ⟨hk.1.2, hk.2⟩⟩)), (by (with_reducible repeat (first | apply Kd.R_alloc | apply Kd.R_drewN | apply Kd.R_drew)); exact Kd.R_mono HO_420000.out (fun _ hk => ⟨hk.1.2, ⟨hk.2, hk.1.1⟩⟩)), (by (with_reducible repeat (first | apply Kd.R_alloc | apply Kd.R_drewN | apply Kd.R_drew)); exact Kd.R_mono HO_422000.out (fun _ hk => ⟨hk.1.2, ⟨hk.2, hk.1.1⟩⟩)), (by (with_reducible repeat (first | refine qN ?_ _ | refine qD ?_ | refine qA ?_ _)); exact BK408.out), (by (with_reducible repeat (first | refine qN ?_ _ | refine qD ?_ | refine qA ?_ _)); exact BK419.out), (by (with_reducible repeat (first | refine qN ?_ _ | refine qD ?_ | refine qA ?_ _)); exact BK421.out), (by (with_reducible repeat (first | refine qN ?_ _ | refine qD ?_ | refine qA ?_ _)); exact BK431.out), GW431.out, GE431.out, NB408_431.out, NB431_408.out, NB419_431.out, NB431_419.out, NB421_431.out, NB431_421.out, (by repeat (first | (with_reducible first | exact HB.out | apply pA | apply pN | apply pD | refine pS ?_ GE408.out | refine pS ?_ GE419.out | refine pS ?_ GE421.out | refine pS ?_ GE431.out) | exact HB.out))⟩)
                  rintro ⟨v424, v428, gb431⟩ w37 ⟨hS_, h0_, h1_, h2_, h3_, h4_, h5_, h6_, h7_, h8_, h9_, h10_, h11_, h12_, h13_, h14_, h15_, h16_⟩
                  have n0_ : Aside0 (Kd.R (Kd.int .u8) 5 w37 w.heap.size (fun k_ => some k_ ≠ (v428 : Value).ownBlock ∧ some k_ ≠ (.slice Ao33 x420000_2.length co33 : Value).ownBlock ∧ some k_ ≠ (u422000 : Value).ownBlock) v424 t423) := ⟨h0_⟩
                  have n1_ : Aside0 (Kd.R (Kd.int .u8) 5 w37 w.heap.size (fun k_ => some k_ ≠ (v424 : Value).ownBlock ∧ some k_ ≠ (.slice Ao33 x420000_2.length co33 : Value).ownBlock ∧ some k_ ≠ (u422000 : Value).ownBlock) v428 t427) := ⟨h1_⟩
                  have n2_ : Aside0 (Kd.R (Kd.int .u8) 5 w37 w.heap.size (fun k_ => some k_ ≠ (v424 : Value).ownBlock ∧ some k_ ≠ (v428 : Value).ownBlock ∧ some k_ ≠ (u422000 : Value).ownBlock) (.slice Ao33 x420000_2.length co33) x420000_2) := ⟨h2_⟩
                  have n3_ : Aside0 (Kd.R (Kd.int .u8) 5 w37 w.heap.size (fun k_ => some k_ ≠ (v424 : Value).ownBlock ∧ some k_ ≠ (v428 : Value).ownBlock ∧ some k_ ≠ (.slice Ao33 x420000_2.length co33 : Value).ownBlock) u422000 x422000_2) := ⟨h3_⟩
                  have n4_ : Aside0 (w37.heap[gb408]? = some (.cells #[.slice A0_0 l0_0.length c0_0, .bool a0_1] 37 (0, 0))) := ⟨h4_⟩
                  have n5_ : Aside0 (w37.heap[gb419]? = some (.cells #[.slice Ao33 x420000_2.length co33, .bool x420001_2] 37 (0, 0))) := ⟨h5_⟩
                  have n6_ : Aside0 (w37.heap[gb421]? = some (.cells #[u422000, .bool x422001_2] 37 (0, 0))) := ⟨h6_⟩
                  have n7_ : Aside0 (w37.heap[gb431]? = some (.cells #[.slice none 0 0, .bool false] 37 (0, 0))) := ⟨h7_⟩
                  have n8_ : Aside0 (w.heap.size ≤ gb431) := ⟨h8_⟩
                  have n9_ : Aside0 (w.heap.size ≤ gb431) := ⟨h9_⟩
                  have n10_ : Aside0 (gb408 ≠ gb431) := ⟨h10_⟩
                  have n11_ : Aside0 (gb431 ≠ gb408) := ⟨h11_⟩
                  have n12_ : Aside0 (gb419 ≠ gb431) := ⟨h12_⟩
                  have n13_ : Aside0 (gb431 ≠ gb419) := ⟨h13_⟩
                  have n14_ : Aside0 (gb421 ≠ gb431) := ⟨h14_⟩
                  have n15_ : Aside0 (gb431 ≠ gb421) := ⟨h15_⟩
                  have n16_ : Aside0 (Below w.heap.size w w37) := ⟨h16_⟩
                  clear HO_420000
                  clear HO_422000
                  clear BK408
                  clear BK419
                  clear BK421
                  clear HB
                  clear h0_ h1_ h2_ h3_ h4_ h5_ h6_ h7_ h8_ h9_ h10_ h11_ h12_ h13_ h14_ h15_ h16_
                  have HO425 := n0_
                  have HO429 := n1_
                  have HO_420000 := n2_
                  have HO_422000 := n3_
                  have BK408 := n4_
                  have BK419 := n5_
                  have BK421 := n6_
                  have BK431 := n7_
                  have GW431 := n8_
                  have GE431 := n9_
                  have NB408_431 := n10_
                  have NB431_408 := n11_
                  have NB419_431 := n12_
                  have NB431_419 := n13_
                  have NB421_431 := n14_
                  have NB431_421 := n15_
                  have HB := n16_
                  clear n0_ n1_ n2_ n3_ n4_ n5_ n6_ n7_ n8_ n9_ n10_ n11_ n12_ n13_ n14_ n15_ n16_
                  have hHeld : w37.cell? ⟨gb419, 0, none⟩ = some (.slice Ao33 x420000_2.length co33) ∧ w37.cell? ⟨gb419, 1, none⟩ = some (.bool x420001_2) ∧ w37.cell? (ad422.add (x10_2).toNat) = some (.int .u8 (rd l1 x10_2)) := hS_
                  obtain ⟨Ao38, co38, eo38⟩ := Kd.R_slice HO425.out
                  (first | subst eo38 | (injection eo38 with f1_ f2_ f3_; have f4_ := f1_.symm; have f5_ := f3_.symm; clear f1_ f2_ f3_; subst f4_; subst f5_))
                  refine norm_ (a' := ?_) ?_ ?_
                  rotate_left
                  · simp only [putAll, Act.put, List.setIfInBounds_toArray, List.set_cons_zero, List.set_cons_succ]
                    rfl
                  refine one_ (i := 11) (N := none) #[true, true, true, true, true, true, true, true, true, true, true, true, false, false] rfl rfl (one_of HT_.out (by kernel_rfl)) (by decide) (fun K hK => ?_)
                  have hs39 : w37.cell? ⟨gb431, 0, none⟩ = some (.slice none 0 0) := (blk_cell BK431.out 0).trans rfl
                  have hfs39 := blk_frozen BK431.out 0
                  have hns39_0 := NB408_431.out
                  have hns39_1 := NB419_431.out
                  have hns39_2 := NB421_431.out
                  have hms39_0 := NB431_408.out
                  have hms39_1 := NB431_419.out
                  have hms39_2 := NB431_421.out
                  have hs40 : w37.cell? ⟨gb431, 1, none⟩ = some (.bool false) := (blk_cell BK431.out 1).trans rfl
                  have hfs40 := blk_frozen BK431.out 1
                  have hns40_0 := NB408_431.out
                  have hns40_1 := NB419_431.out
                  have hns40_2 := NB421_431.out
                  have hms40_0 := NB431_408.out
                  have hms40_1 := NB431_419.out
                  have hms40_2 := NB431_421.out
                  refine skip_ (w1 := ?_) (by rfl) rfl ?_ ?_
                  rotate_left
                  · go_simp
                    rfl
                  refine hK.out _ _ ⟨((cell_far (p := ⟨gb431, _, none⟩) NB419_431.out _).trans (((cell_far (p := ⟨gb431, _, none⟩) NB419_431.out _).trans (hHeld.1)))), ((cell_far (p := ⟨gb431, _, none⟩) NB419_431.out _).trans (((cell_far (p := ⟨gb431, _, none⟩) NB419_431.out _).trans (hHeld.2.1)))), ((cell_far (p := ⟨gb431, _, none⟩) (by first | exact Nat.ne_of_lt (Nat.lt_of_lt_of_le (by have := World.block_lt_of_cell? _ _ hw422_0; first | rwa [add_block] at this | exact this) GW431.out) | (rw [add_block]; exact Nat.ne_of_lt (Nat.lt_of_lt_of_le (by have := World.block_lt_of_cell? _ _ hw422_0; first | rwa [add_block] at this | exact this) GW431.out)) | (show (Addr.add _ _).block ≠ _; rw [add_block]; exact Nat.ne_of_lt (Nat.lt_of_lt_of_le (by have := World.block_lt_of_cell? _ _ hw422_0; first | rwa [add_block] at this | exact this) GW431.out)) | (dsimp only; exact Nat.ne_of_lt (Nat.lt_of_lt_of_le (by have := World.block_lt_of_cell? _ _ hw422_0; first | rwa [add_block] at this | exact this) GW431.out))) _).trans (((cell_far (p := ⟨gb431, _, none⟩) (by first | exact Nat.ne_of_lt (Nat.lt_of_lt_of_le (by have := World.block_lt_of_cell? _ _ hw422_0; first | rwa [add_block] at this | exact this) GW431.out) | (rw [add_block]; exact Nat.ne_of_lt (Nat.lt_of_lt_of_le (by have := World.block_lt_of_cell? _ _ hw422_0; first | rwa [add_block] at this | exact this) GW431.out)) | (show (Addr.add _ _).block ≠ _; rw [add_block]; exact Nat.ne_of_lt (Nat.lt_of_lt_of_le (by have := World.block_lt_of_cell? _ _ hw422_0; first | rwa [add_block] at this | exact this) GW431.out)) | (dsimp only; exact Nat.ne_of_lt (Nat.lt_of_lt_of_le (by have := World.block_lt_of_cell? _ _ hw422_0; first | rwa [add_block] at this | exact this) GW431.out))) _).trans (hHeld.2.2))))⟩ (fun hHeld => ?_)
                  clear hK K
                  refine pure_ (i := 12) (N := some 12) (v := ?_) (a' := ?_) #[true, true, true, true, true, true, true, true, true, true, true, true, true, false] rfl rfl (any_of HT_.out (by kernel_rfl)) (fun _ _ _ h => h) (Or.inl ⟨by rfl, ?_⟩) ?_ ?_
                  rotate_left
                  · intro w'
                    go_simp
                    with_reducible rfl
                  rotate_left
                  · simp only [Act.put, List.setIfInBounds_toArray, List.set_cons_zero, List.set_cons_succ, i64_w, i32_w]
                    rfl
                  refine pure_ (i := 13) (N := some 13) (v := ?_) (a' := ?_) #[true, true, true, true, true, true, true, true, true, true, true, true, true, true] rfl rfl (any_of HT_.out (by kernel_rfl)) (fun _ _ _ h => h) (Or.inl ⟨by rfl, ?_⟩) ?_ ?_
                  rotate_left
                  · intro w'
                    go_simp
                    with_reducible rfl
                  rotate_left
                  · simp only [Act.put, List.setIfInBounds_toArray, List.set_cons_zero, List.set_cons_succ, i64_w, i32_w]
                    rfl
                  refine done_ (done_of HT_.out (by kernel_rfl)) ?_
                  obtain ⟨Ao41, co41, eo41⟩ := Kd.R_slice HO_422000.out
                  subst eo41
                  try go_wp2
                  have n0_ : Aside0 (Kd.R (Kd.int .u8) 5 ((w37.setCell ⟨gb431, 0, none⟩ (.slice Ao38 t423.length co38)).setCell ⟨gb431, 1, none⟩ (.bool t426)) w.heap.size (fun k_ => some k_ ≠ (.slice Ao41 x422000_2.length co41 : Value).ownBlock ∧ some k_ ≠ (.slice Ao38 t423.length co38 : Value).ownBlock ∧ some k_ ≠ (v428 : Value).ownBlock) (.slice Ao33 x420000_2.length co33) x420000_2) := ⟨by (with_reducible repeat (first | apply Kd.R_alloc | apply Kd.R_drewN | apply Kd.R_drew)); exact Kd.R_mono (Kd.R_far (p := ⟨gb431, 1, none⟩) (Kd.R_far (p := ⟨gb431, 0, none⟩) (Kd.R_types HO_420000.out BK431.out (by decide)) (fun _ hk => hk.2) (.slice Ao38 t423.length co38)) (fun _ hk => hk.2) (.bool t426)) (fun _ hk => ⟨hk.1.2.2, ⟨hk.1.1, hk.1.2.1⟩⟩)⟩
                  have n1_ : Aside0 (Kd.R (Kd.int .u8) 5 ((w37.setCell ⟨gb431, 0, none⟩ (.slice Ao38 t423.length co38)).setCell ⟨gb431, 1, none⟩ (.bool t426)) w.heap.size (fun k_ => some k_ ≠ (.slice Ao33 x420000_2.length co33 : Value).ownBlock ∧ some k_ ≠ (.slice Ao38 t423.length co38 : Value).ownBlock ∧ some k_ ≠ (v428 : Value).ownBlock) (.slice Ao41 x422000_2.length co41) x422000_2) := ⟨by (with_reducible repeat (first | apply Kd.R_alloc | apply Kd.R_drewN | apply Kd.R_drew)); exact Kd.R_mono (Kd.R_far (p := ⟨gb431, 1, none⟩) (Kd.R_far (p := ⟨gb431, 0, none⟩) (Kd.R_types HO_422000.out BK431.out (by decide)) (fun _ hk => hk.2) (.slice Ao38 t423.length co38)) (fun _ hk => hk.2) (.bool t426)) (fun _ hk => ⟨hk.1.2.2, ⟨hk.1.1, hk.1.2.1⟩⟩)⟩
                  have n2_ : Aside0 (Kd.R (Kd.int .u8) 5 ((w37.setCell ⟨gb431, 0, none⟩ (.slice Ao38 t423.length co38)).setCell ⟨gb431, 1, none⟩ (.bool t426)) w.heap.size (fun k_ => some k_ ≠ (.slice Ao33 x420000_2.length co33 : Value).ownBlock ∧ some k_ ≠ (.slice Ao41 x422000_2.length co41 : Value).ownBlock ∧ some k_ ≠ (v428 : Value).ownBlock) (.slice Ao38 t423.length co38) t423) := ⟨by (with_reducible repeat (first | apply Kd.R_alloc | apply Kd.R_drewN | apply Kd.R_drew)); exact Kd.R_mono (Kd.R_far (p := ⟨gb431, 1, none⟩) (Kd.R_far (p := ⟨gb431, 0, none⟩) (Kd.R_types HO425.out BK431.out (by decide)) (fun _ hk => hk.2) (.slice Ao38 t423.length co38)) (fun _ hk => hk.2) (.bool t426)) (fun _ hk => ⟨hk.1.2.1, ⟨hk.1.2.2, hk.1.1⟩⟩)⟩
                  have n3_ : Aside0 (Kd.R (Kd.int .u8) 5 ((w37.setCell ⟨gb431, 0, none⟩ (.slice Ao38 t423.length co38)).setCell ⟨gb431, 1, none⟩ (.bool t426)) w.heap.size (fun k_ => some k_ ≠ (.slice Ao33 x420000_2.length co33 : Value).ownBlock ∧ some k_ ≠ (.slice Ao41 x422000_2.length co41 : Value).ownBlock ∧ some k_ ≠ (.slice Ao38 t423.length co38 : Value).ownBlock) v428 t427) := ⟨by (with_reducible repeat (first | apply Kd.R_alloc | apply Kd.R_drewN | apply Kd.R_drew)); exact Kd.R_mono (Kd.R_far (p := ⟨gb431, 1, none⟩) (Kd.R_far (p := ⟨gb431, 0, none⟩) (Kd.R_types HO429.out BK431.out (by decide)) (fun _ hk => hk.2) (.slice Ao38 t423.length co38)) (fun _ hk => hk.2) (.bool t426)) (fun _ hk => ⟨hk.1.2.1, ⟨hk.1.2.2, hk.1.1⟩⟩)⟩
                  have n4_ : Aside0 (((w37.setCell ⟨gb431, 0, none⟩ (.slice Ao38 t423.length co38)).setCell ⟨gb431, 1, none⟩ (.bool t426)).heap[gb408]? = some (.cells #[.slice A0_0 l0_0.length c0_0, .bool a0_1] 37 (0, 0))) := ⟨by (with_reducible repeat (first | refine qN ?_ _ | refine qD ?_ | refine qA ?_ _)); refine blk_far ?_ NB408_431.out _; (with_reducible repeat (first | refine qN ?_ _ | refine qD ?_ | refine qA ?_ _)); refine blk_far ?_ NB408_431.out _; (with_reducible repeat (first | refine qN ?_ _ | refine qD ?_ | refine qA ?_ _)); exact BK408.out⟩
                  have n5_ : Aside0 (((w37.setCell ⟨gb431, 0, none⟩ (.slice Ao38 t423.length co38)).setCell ⟨gb431, 1, none⟩ (.bool t426)).heap[gb419]? = some (.cells #[.slice Ao33 x420000_2.length co33, .bool x420001_2] 37 (0, 0))) := ⟨by (with_reducible repeat (first | refine qN ?_ _ | refine qD ?_ | refine qA ?_ _)); refine blk_far ?_ NB419_431.out _; (with_reducible repeat (first | refine qN ?_ _ | refine qD ?_ | refine qA ?_ _)); refine blk_far ?_ NB419_431.out _; (with_reducible repeat (first | refine qN ?_ _ | refine qD ?_ | refine qA ?_ _)); exact BK419.out⟩
                  have n6_ : Aside0 (((w37.setCell ⟨gb431, 0, none⟩ (.slice Ao38 t423.length co38)).setCell ⟨gb431, 1, none⟩ (.bool t426)).heap[gb421]? = some (.cells #[.slice Ao41 x422000_2.length co41, .bool x422001_2] 37 (0, 0))) := ⟨by (with_reducible repeat (first | refine qN ?_ _ | refine qD ?_ | refine qA ?_ _)); refine blk_far ?_ NB421_431.out _; (with_reducible repeat (first | refine qN ?_ _ | refine qD ?_ | refine qA ?_ _)); refine blk_far ?_ NB421_431.out _; (with_reducible repeat (first | refine qN ?_ _ | refine qD ?_ | refine qA ?_ _)); exact BK421.out⟩
                  have n7_ : Aside0 (((w37.setCell ⟨gb431, 0, none⟩ (.slice Ao38 t423.length co38)).setCell ⟨gb431, 1, none⟩ (.bool t426)).heap[gb431]? = some (.cells #[.slice Ao38 t423.length co38, .bool t426] 37 (0, 0))) := ⟨by (with_reducible repeat (first | refine qN ?_ _ | refine qD ?_ | refine qA ?_ _)); refine blk_put (cs := #[.slice Ao38 t423.length co38, .bool false]) ?_ 1 _ rfl; (with_reducible repeat (first | refine qN ?_ _ | refine qD ?_ | refine qA ?_ _)); refine blk_put (cs := #[.slice none 0 0, .bool false]) ?_ 0 _ rfl; (with_reducible repeat (first | refine qN ?_ _ | refine qD ?_ | refine qA ?_ _)); exact BK431.out⟩
                  have n8_ : Aside0 (Below w.heap.size w ((w37.setCell ⟨gb431, 0, none⟩ (.slice Ao38 t423.length co38)).setCell ⟨gb431, 1, none⟩ (.bool t426))) := ⟨by repeat (first | (with_reducible first | exact HB.out | apply pA | apply pN | apply pD | refine pS ?_ GE408.out | refine pS ?_ GE419.out | refine pS ?_ GE421.out | refine pS ?_ GE431.out) | exact HB.out)⟩
                  (try clear HO_420000)
                  (try clear HO_422000)
                  (try clear HO425)
                  (try clear HO429)
                  (try clear BK408)
                  (try clear BK419)
                  (try clear BK421)
                  (try clear BK431)
                  (try clear HB)
                  generalize ((w37.setCell ⟨gb431, 0, none⟩ (.slice Ao38 t423.length co38)).setCell ⟨gb431, 1, none⟩ (.bool t426)) = w42 at n0_ n1_ n2_ n3_ n4_ n5_ n6_ n7_ n8_ ⊢
                  have HO_420000 := n0_
                  have HO_422000 := n1_
                  have HO425 := n2_
                  have HO429 := n3_
                  have BK408 := n4_
                  have BK419 := n5_
                  have BK421 := n6_
                  have BK431 := n7_
                  have HB := n8_
                  clear n0_ n1_ n2_ n3_ n4_ n5_ n6_ n7_ n8_
                  have n0_ := Aside0.mk (Kd.R_drew HO_420000.out)
                  have n1_ := Aside0.mk (Kd.R_drew HO_422000.out)
                  have n2_ := Aside0.mk (Kd.R_drew HO425.out)
                  have n3_ := Aside0.mk (Kd.R_drew HO429.out)
                  have n4_ := Aside0.mk (qD BK408.out)
                  have n5_ := Aside0.mk (qD BK419.out)
                  have n6_ := Aside0.mk (qD BK421.out)
                  have n7_ := Aside0.mk (qD BK431.out)
                  have n8_ := Aside0.mk (pD HB.out)
                  clear HO_420000
                  clear HO_422000
                  clear HO425
                  clear HO429
                  clear BK408
                  clear BK419
                  clear BK421
                  clear BK431
                  clear HB
                  have HO_420000 := n0_
                  have HO_422000 := n1_
                  have HO425 := n2_
                  have HO429 := n3_
                  have BK408 := n4_
                  have BK419 := n5_
                  have BK421 := n6_
                  have BK431 := n7_
                  have HB := n8_
                  clear n0_ n1_ n2_ n3_ n4_ n5_ n6_ n7_ n8_
                  have p432 : 0 ≤ (x10_2 : Int) := of_decide_eq_true (by first | (with_reducible assumption) | assumption)
                  have q432 : x10_2 < (l1.length : Int) := of_decide_eq_true (by first | (with_reducible assumption) | assumption)
                  obtain ⟨ad432, e432, hx432_0⟩ := Kd.at_int HR1.out x10_2 p432 q432
                  have hw432_0 := hx432_0
                  obtain rfl : ad422 = ad432 := (by injection e432)
                  replace hx432_0 := (HB.out.cell (World.block_lt_of_cell? w _ hx432_0)).trans hx432_0
                  replace p432 := eq_true p432
                  replace q432 := eq_true q432
                  refine start_ (n := 14) (S := fun w' => w'.cell? ⟨gb421, 0, none⟩ = some (.slice Ao41 x422000_2.length co41) ∧ w'.cell? ⟨gb421, 1, none⟩ = some (.bool x422001_2) ∧ w'.cell? (ad422.add (x10_2).toNat) = some (.int .u8 (rd l1 x10_2))) (ds := []) #[false, false, false, false, false, false, false, false, false, false, false, false, false, false] (by kernel_rfl) rfl rfl ⟨(blk_cell BK421.out 0).trans rfl, (blk_cell BK421.out 1).trans rfl, ((HB.out.cell (World.block_lt_of_cell? w _ hw432_0)).trans hw432_0)⟩ (fun hHeld => ?_); refine with_tabW portreevelaw07_StuffAnew.tab12 portreevelaw07_StuffAnew.bits12 (fun HT_ HW_ => ?_)
                  generalize w42.drew = w43 at HO_420000 HO_422000 HO425 HO429 BK408 BK419 BK421 BK431 HB hx432_0 hHeld ⊢
                  refine pure_ (i := 1) (N := some 56) (v := ?_) (a' := ?_) #[false, true, false, false, false, false, false, false, false, false, false, false, false, false] rfl rfl (any_of HT_.out (by kernel_rfl)) (fun _ _ _ h => h) (Or.inl ⟨by rfl, ?_⟩) ?_ ?_
                  rotate_left
                  · intro w'
                    go_simp
                    with_reducible rfl
                  rotate_left
                  · simp only [Act.put, List.setIfInBounds_toArray, List.set_cons_zero, List.set_cons_succ, i64_w, i32_w]
                    rfl
                  refine pure_ (i := 2) (N := some 57) (v := ?_) (a' := ?_) #[false, true, true, false, false, false, false, false, false, false, false, false, false, false] rfl rfl (any_of HT_.out (by kernel_rfl)) (fun _ _ _ h => h) (Or.inl ⟨by rfl, ?_⟩) ?_ ?_
                  rotate_left
                  · intro w'
                    go_simp
                    with_reducible rfl
                  rotate_left
                  · simp only [Act.put, List.setIfInBounds_toArray, List.set_cons_zero, List.set_cons_succ, i64_w, i32_w]
                    rfl
                  refine pure_ (i := 3) (N := some 58) (v := ?_) (a' := ?_) #[false, true, true, true, false, false, false, false, false, false, false, false, false, false] rfl rfl (any_of HT_.out (by kernel_rfl)) (fun _ _ _ h => h) (Or.inl ⟨by rfl, ?_⟩) ?_ ?_
                  rotate_left
                  · intro w'
                    go_simp
                    with_reducible rfl
                  rotate_left
                  · simp only [Act.put, List.setIfInBounds_toArray, List.set_cons_zero, List.set_cons_succ, i64_w, i32_w]
                    rfl
                  refine take_ (i := 0) (N := some 55) (v := ?_) (a' := ?_) #[true, true, true, true, false, false, false, false, false, false, false, false, false, false] rfl rfl (take_ofW HT_.out HW_.out (by kernel_rfl)) (fun _ _ _ h => h) (Or.inl ⟨by rfl, ?_⟩) hHeld ?_ ?_
                  rotate_left
                  · rintro w' ⟨s0, s1, s2⟩
                    go_simp
                    with_reducible rfl
                  rotate_left
                  · simp only [Act.put, List.setIfInBounds_toArray, List.set_cons_zero, List.set_cons_succ, i64_w, i32_w]
                    rfl
                  refine take_ (i := 4) (N := some 59) (v := ?_) (a' := ?_) #[true, true, true, true, true, false, false, false, false, false, false, false, false, false] rfl rfl (take_ofW HT_.out HW_.out (by kernel_rfl)) (fun _ _ _ h => h) (Or.inl ⟨by rfl, ?_⟩) hHeld ?_ ?_
                  rotate_left
                  · rintro w' ⟨s0, s1, s2⟩
                    go_simp
                    with_reducible rfl
                  rotate_left
                  · simp only [Act.put, List.setIfInBounds_toArray, List.set_cons_zero, List.set_cons_succ, i64_w, i32_w]
                    rfl
                  refine join_ (σ := Value × Value × Nat) 3 #[true, true, true, true, true, true, true, true, true, true, true, false, false, false] (fun s_ => [(60, .tuple #[.agg #[s_.1, .bool t436], s_.2.1, .bool t440]), (14, .pointer (some ⟨s_.2.2, 0, none⟩)), (54, .tuple #[.agg #[s_.1, .bool t436], s_.2.1, .bool t440]), (61, .agg #[s_.1, .bool t436]), (62, s_.2.1), (63, .bool t440)]) (fun s_ w' => (w'.cell? ⟨gb421, 0, none⟩ = some (.slice Ao41 x422000_2.length co41) ∧ w'.cell? ⟨gb421, 1, none⟩ = some (.bool x422001_2) ∧ w'.cell? (ad422.add (x10_2).toNat) = some (.int .u8 (rd l1 x10_2))) ∧ (Kd.R (Kd.int .u8) 5 w' w.heap.size (fun k_ => some k_ ≠ (v428 : Value).ownBlock ∧ some k_ ≠ (s_.1 : Value).ownBlock ∧ some k_ ≠ (s_.2.1 : Value).ownBlock ∧ some k_ ≠ (.slice Ao33 x420000_2.length co33 : Value).ownBlock ∧ some k_ ≠ (.slice Ao41 x422000_2.length co41 : Value).ownBlock) (.slice Ao38 t423.length co38) t423) ∧ (Kd.R (Kd.int .u8) 5 w' w.heap.size (fun k_ => some k_ ≠ (.slice Ao38 t423.length co38 : Value).ownBlock ∧ some k_ ≠ (s_.1 : Value).ownBlock ∧ some k_ ≠ (s_.2.1 : Value).ownBlock ∧ some k_ ≠ (.slice Ao33 x420000_2.length co33 : Value).ownBlock ∧ some k_ ≠ (.slice Ao41 x422000_2.length co41 : Value).ownBlock) v428 t427) ∧ (Kd.R (Kd.int .u8) 5 w' w.heap.size (fun k_ => some k_ ≠ (.slice Ao38 t423.length co38 : Value).ownBlock ∧ some k_ ≠ (v428 : Value).ownBlock ∧ some k_ ≠ (s_.2.1 : Value).ownBlock ∧ some k_ ≠ (.slice Ao33 x420000_2.length co33 : Value).ownBlock ∧ some k_ ≠ (.slice Ao41 x422000_2.length co41 : Value).ownBlock) s_.1 t433) ∧ (Kd.R (Kd.int .u8) 5 w' w.heap.size (fun k_ => some k_ ≠ (.slice Ao38 t423.length co38 : Value).ownBlock ∧ some k_ ≠ (v428 : Value).ownBlock ∧ some k_ ≠ (s_.1 : Value).ownBlock ∧ some k_ ≠ (.slice Ao33 x420000_2.length co33 : Value).ownBlock ∧ some k_ ≠ (.slice Ao41 x422000_2.length co41 : Value).ownBlock) s_.2.1 t437) ∧ (Kd.R (Kd.int .u8) 5 w' w.heap.size (fun k_ => some k_ ≠ (.slice Ao38 t423.length co38 : Value).ownBlock ∧ some k_ ≠ (v428 : Value).ownBlock ∧ some k_ ≠ (s_.1 : Value).ownBlock ∧ some k_ ≠ (s_.2.1 : Value).ownBlock ∧ some k_ ≠ (.slice Ao41 x422000_2.length co41 : Value).ownBlock) (.slice Ao33 x420000_2.length co33) x420000_2) ∧ (Kd.R (Kd.int .u8) 5 w' w.heap.size (fun k_ => some k_ ≠ (.slice Ao38 t423.length co38 : Value).ownBlock ∧ some k_ ≠ (v428 : Value).ownBlock ∧ some k_ ≠ (s_.1 : Value).ownBlock ∧ some k_ ≠ (s_.2.1 : Value).ownBlock ∧ some k_ ≠ (.slice Ao33 x420000_2.length co33 : Value).ownBlock) (.slice Ao41 x422000_2.length co41) x422000_2) ∧ (w'.heap[gb408]? = some (.cells #[.slice A0_0 l0_0.length c0_0, .bool a0_1] 37 (0, 0))) ∧ (w'.heap[gb419]? = some (.cells #[.slice Ao33 x420000_2.length co33, .bool x420001_2] 37 (0, 0))) ∧ (w'.heap[gb421]? = some (.cells #[.slice Ao41 x422000_2.length co41, .bool x422001_2] 37 (0, 0))) ∧ (w'.heap[gb431]? = some (.cells #[.slice Ao38 t423.length co38, .bool t426] 37 (0, 0))) ∧ (w'.heap[s_.2.2]? = some (.cells #[.slice none 0 0, .bool false] 37 (0, 0))) ∧ (w.heap.size ≤ s_.2.2) ∧ (w.heap.size ≤ s_.2.2) ∧ (gb408 ≠ s_.2.2) ∧ (s_.2.2 ≠ gb408) ∧ (gb419 ≠ s_.2.2) ∧ (s_.2.2 ≠ gb419) ∧ (gb421 ≠ s_.2.2) ∧ (s_.2.2 ≠ gb421) ∧ (gb431 ≠ s_.2.2) ∧ (s_.2.2 ≠ gb431) ∧ (Below w.heap.size w w')) ?_ ?_
                  rotate_left
                  · intro hCont
                    refine two_ (i := 5) (j := 10) (Ni := some 60) (Nj := some 14) #[true, true, true, true, true, true, false, false, false, false, false, false, false, false] #[true, true, true, true, true, false, false, false, false, false, true, false, false, false] rfl rfl rfl rfl (two_of HT_.out (by kernel_rfl)) (by decide) (by decide) (fun K hK => ?_) (fun K hK => ?_)
                    · skip
                      refine goes_ Try.func22 (by kernel_rfl) rfl #[.agg #[.slice Ao41 x422000_2.length co41, .bool x422001_2], .int .u8 (rd l1 x10_2)] (by rfl) rfl rfl (by (try simp only [List.map_toArray, List.map_cons, List.map_nil]); first | done | rfl | (simp only [List.length_drop, List.length_take]; rfl)) ?_
                      with_reducible refine (stuff_Feed.calls k2 _ _ x422000_2 x422001_2 (rd l1 x10_2) t433 t436 t437 t440 _ ?side1 ?side2 A31.out).mono ?_
                      (case side1 => repeat (first | exact (Kd.R_reads' HO_422000.out).2.2 | (with_reducible refine Kd.C_alloc ?_ _) | (with_reducible refine Kd.C_drewN ?_ _) | (with_reducible refine Kd.C_drew ?_)))
                      (case side2 => exact (Kd.R_reads' HO_422000.out).2.1)
                      rintro e w44 ⟨v434, v438, rfl, ho0, ho1, hb⟩
                      refine ⟨_, rfl, ?_⟩
                      have n0_ := Aside0.mk (Kd.R_mono (Kd.R_told (Kd.R_told (Kd.R_old (by (with_reducible repeat (first | apply Kd.R_alloc | apply Kd.R_drewN | apply Kd.R_drew)); exact HO_420000.out) hb) (Kd.R_base ho0)) (Kd.R_base ho1)) (fun _ h_ => h_.1))
                      have n1_ := Aside0.mk (Kd.R_mono (Kd.R_told (Kd.R_told (Kd.R_old (by (with_reducible repeat (first | apply Kd.R_alloc | apply Kd.R_drewN | apply Kd.R_drew)); exact HO_422000.out) hb) (Kd.R_base ho0)) (Kd.R_base ho1)) (fun _ h_ => h_.1))
                      have n2_ := Aside0.mk (Kd.R_mono (Kd.R_told (Kd.R_told (Kd.R_old (by (with_reducible repeat (first | apply Kd.R_alloc | apply Kd.R_drewN | apply Kd.R_drew)); exact HO425.out) hb) (Kd.R_base ho0)) (Kd.R_base ho1)) (fun _ h_ => h_.1))
                      have n3_ := Aside0.mk (Kd.R_mono (Kd.R_told (Kd.R_told (Kd.R_old (by (with_reducible repeat (first | apply Kd.R_alloc | apply Kd.R_drewN | apply Kd.R_drew)); exact HO429.out) hb) (Kd.R_base ho0)) (Kd.R_base ho1)) (fun _ h_ => h_.1))
                      have n4_ := Aside0.mk (Kd.R_lower (Kd.R_new' (Kd.R_new' (Kd.R_new' (Kd.R_new' ho0 (Kd.R_lt (by (with_reducible repeat (first | apply Kd.R_alloc | apply Kd.R_drewN | apply Kd.R_drew)); exact HO_420000.out))) (Kd.R_lt (by (with_reducible repeat (first | apply Kd.R_alloc | apply Kd.R_drewN | apply Kd.R_drew)); exact HO_422000.out))) (Kd.R_lt (by (with_reducible repeat (first | apply Kd.R_alloc | apply Kd.R_drewN | apply Kd.R_drew)); exact HO425.out))) (Kd.R_lt (by (with_reducible repeat (first | apply Kd.R_alloc | apply Kd.R_drewN | apply Kd.R_drew)); exact HO429.out))) (below_size (by repeat (first | (with_reducible first | exact HB.out | apply pA | apply pN | apply pD | refine pS ?_ GE408.out | refine pS ?_ GE419.out | refine pS ?_ GE421.out | refine pS ?_ GE431.out) | exact HB.out))))
                      have n5_ := Aside0.mk (Kd.R_lower (Kd.R_new' (Kd.R_new' (Kd.R_new' (Kd.R_new' ho1 (Kd.R_lt (by (with_reducible repeat (first | apply Kd.R_alloc | apply Kd.R_drewN | apply Kd.R_drew)); exact HO_420000.out))) (Kd.R_lt (by (with_reducible repeat (first | apply Kd.R_alloc | apply Kd.R_drewN | apply Kd.R_drew)); exact HO_422000.out))) (Kd.R_lt (by (with_reducible repeat (first | apply Kd.R_alloc | apply Kd.R_drewN | apply Kd.R_drew)); exact HO425.out))) (Kd.R_lt (by (with_reducible repeat (first | apply Kd.R_alloc | apply Kd.R_drewN | apply Kd.R_drew)); exact HO429.out))) (below_size (by repeat (first | (with_reducible first | exact HB.out | apply pA | apply pN | apply pD | refine pS ?_ GE408.out | refine pS ?_ GE419.out | refine pS ?_ GE421.out | refine pS ?_ GE431.out) | exact HB.out))))
                      have n6_ := Aside0.mk (blk_below (g := gb408) (o := .cells #[.slice A0_0 l0_0.length c0_0, .bool a0_1] 37 (0, 0)) (by (with_reducible repeat (first | refine qN ?_ _ | refine qD ?_ | refine qA ?_ _)); exact BK408.out) hb)
                      have n7_ := Aside0.mk (blk_below (g := gb419) (o := .cells #[.slice Ao33 x420000_2.length co33, .bool x420001_2] 37 (0, 0)) (by (with_reducible repeat (first | refine qN ?_ _ | refine qD ?_ | refine qA ?_ _)); exact BK419.out) hb)
                      have n8_ := Aside0.mk (blk_below (g := gb421) (o := .cells #[.slice Ao41 x422000_2.length co41, .bool x422001_2] 37 (0, 0)) (by (with_reducible repeat (first | refine qN ?_ _ | refine qD ?_ | refine qA ?_ _)); exact BK421.out) hb)
                      have n9_ := Aside0.mk (blk_below (g := gb431) (o := .cells #[.slice Ao38 t423.length co38, .bool t426] 37 (0, 0)) (by (with_reducible repeat (first | refine qN ?_ _ | refine qD ?_ | refine qA ?_ _)); exact BK431.out) hb)
                      have n10_ := Aside0.mk (below_step (by repeat (first | (with_reducible first | exact HB.out | apply pA | apply pN | apply pD | refine pS ?_ GE408.out | refine pS ?_ GE419.out | refine pS ?_ GE421.out | refine pS ?_ GE431.out) | exact HB.out)) hb)
                      clear HO_420000
                      clear HO_422000
                      clear HO425
                      clear HO429
                      clear BK408
                      clear BK419
                      clear BK421
                      clear BK431
                      clear HB
                      have HO_420000 := n0_
                      have HO_422000 := n1_
                      have HO425 := n2_
                      have HO429 := n3_
                      have HO435 := n4_
                      have HO439 := n5_
                      have BK408 := n6_
                      have BK419 := n7_
                      have BK421 := n8_
                      have BK431 := n9_
                      have HB := n10_
                      clear n0_ n1_ n2_ n3_ n4_ n5_ n6_ n7_ n8_ n9_ n10_
                      (try clear hb)
                      (try clear hb2)
                      (try clear hk)
                      (try clear hi)
                      (try clear ho0)
                      (try clear ho1)
                      refine hK.out _ _ ⟨(blk_cell BK421.out 0).trans rfl, (blk_cell BK421.out 1).trans rfl, ((HB.out.cell (World.block_lt_of_cell? w _ hw432_0)).trans hw432_0)⟩ (fun hHeld => ?_)
                      clear hK K
                      refine norm_ (a' := ?_) ?_ ?_
                      rotate_left
                      · show Act.put _ (some 60) _ = _
                        simp only [Act.put, List.setIfInBounds_toArray, List.set_cons_zero, List.set_cons_succ, i64_w, i32_w]
                        rfl
                      refine pure_ (i := 6) (N := some 54) (v := ?_) (a' := ?_) #[true, true, true, true, true, true, true, false, false, false, false, false, false, false] rfl rfl (any_of HT_.out (by kernel_rfl)) (fun _ _ _ h => h) (Or.inl ⟨by rfl, ?_⟩) ?_ ?_
                      rotate_left
                      · intro w'
                        go_simp
                        with_reducible rfl
                      rotate_left
                      · simp only [Act.put, List.setIfInBounds_toArray, List.set_cons_zero, List.set_cons_succ, i64_w, i32_w]
                        rfl
                      refine pure_ (i := 7) (N := some 61) (v := ?_) (a' := ?_) #[true, true, true, true, true, true, true, true, false, false, false, false, false, false] rfl rfl (any_of HT_.out (by kernel_rfl)) (fun _ _ _ h => h) (Or.inl ⟨by rfl, ?_⟩) ?_ ?_
                      rotate_left
                      · intro w'
                        go_simp
                        with_reducible rfl
                      rotate_left
                      · simp only [Act.put, List.setIfInBounds_toArray, List.set_cons_zero, List.set_cons_succ, i64_w, i32_w]
                        rfl
                      refine pure_ (i := 8) (N := some 62) (v := ?_) (a' := ?_) #[true, true, true, true, true, true, true, true, true, false, false, false, false, false] rfl rfl (any_of HT_.out (by kernel_rfl)) (fun _ _ _ h => h) (Or.inl ⟨by rfl, ?_⟩) ?_ ?_
                      rotate_left
                      · intro w'
                        go_simp
                        with_reducible rfl
                      rotate_left
                      · simp only [Act.put, List.setIfInBounds_toArray, List.set_cons_zero, List.set_cons_succ, i64_w, i32_w]
                        rfl
                      refine pure_ (i := 9) (N := some 63) (v := ?_) (a' := ?_) #[true, true, true, true, true, true, true, true, true, true, false, false, false, false] rfl rfl (any_of HT_.out (by kernel_rfl)) (fun _ _ _ h => h) (Or.inl ⟨by rfl, ?_⟩) ?_ ?_
                      rotate_left
                      · intro w'
                        go_simp
                        with_reducible rfl
                      rotate_left
                      · simp only [Act.put, List.setIfInBounds_toArray, List.set_cons_zero, List.set_cons_succ, i64_w, i32_w]
                        rfl
                      refine one_ (i := 10) (N := some 14) #[true, true, true, true, true, true, true, true, true, true, true, false, false, false] rfl rfl (one_of HT_.out (by kernel_rfl)) (by decide) (fun K hK => ?_)
                      refine box_step ?hg (N := 14) ?hd (cs := #[.slice none 0 0, .bool false]) (t := 37) ?hr ?_; (case hd => rfl); (case hg => rfl); (case hr => first | (go_simp; done) | (go_simp; rfl))
                      intro gb441 hg w45 hbox hb
                      have n0_ := Aside0.mk (Kd.R_below (by (with_reducible repeat (first | apply Kd.R_alloc | apply Kd.R_drewN | apply Kd.R_drew)); exact HO_420000.out) hb)
                      have n1_ := Aside0.mk (Kd.R_below (by (with_reducible repeat (first | apply Kd.R_alloc | apply Kd.R_drewN | apply Kd.R_drew)); exact HO_422000.out) hb)
                      have n2_ := Aside0.mk (Kd.R_below (by (with_reducible repeat (first | apply Kd.R_alloc | apply Kd.R_drewN | apply Kd.R_drew)); exact HO425.out) hb)
                      have n3_ := Aside0.mk (Kd.R_below (by (with_reducible repeat (first | apply Kd.R_alloc | apply Kd.R_drewN | apply Kd.R_drew)); exact HO429.out) hb)
                      have n4_ := Aside0.mk (Kd.R_below (by (with_reducible repeat (first | apply Kd.R_alloc | apply Kd.R_drewN | apply Kd.R_drew)); exact HO435.out) hb)
                      have n5_ := Aside0.mk (Kd.R_below (by (with_reducible repeat (first | apply Kd.R_alloc | apply Kd.R_drewN | apply Kd.R_drew)); exact HO439.out) hb)
                      have n6_ := Aside0.mk (blk_below (g := gb408) (o := .cells #[.slice A0_0 l0_0.length c0_0, .bool a0_1] 37 (0, 0)) (by (with_reducible repeat (first | refine qN ?_ _ | refine qD ?_ | refine qA ?_ _)); exact BK408.out) hb)
                      have n7_ := Aside0.mk (blk_below (g := gb419) (o := .cells #[.slice Ao33 x420000_2.length co33, .bool x420001_2] 37 (0, 0)) (by (with_reducible repeat (first | refine qN ?_ _ | refine qD ?_ | refine qA ?_ _)); exact BK419.out) hb)
                      have n8_ := Aside0.mk (blk_below (g := gb421) (o := .cells #[.slice Ao41 x422000_2.length co41, .bool x422001_2] 37 (0, 0)) (by (with_reducible repeat (first | refine qN ?_ _ | refine qD ?_ | refine qA ?_ _)); exact BK421.out) hb)
                      have n9_ := Aside0.mk (blk_below (g := gb431) (o := .cells #[.slice Ao38 t423.length co38, .bool t426] 37 (0, 0)) (by (with_reducible repeat (first | refine qN ?_ _ | refine qD ?_ | refine qA ?_ _)); exact BK431.out) hb)
                      have n10_ := Aside0.mk (below_step (by repeat (first | (with_reducible first | exact HB.out | apply pA | apply pN | apply pD | refine pS ?_ GE408.out | refine pS ?_ GE419.out | refine pS ?_ GE421.out | refine pS ?_ GE431.out) | exact HB.out)) hb)
                      have n11_ := Aside0.mk (hbox)
                      have n12_ := Aside0.mk ((by rw [hg]; exact (below_size (by repeat (first | (with_reducible first | exact HB.out | apply pA | apply pN | apply pD | refine pS ?_ GE408.out | refine pS ?_ GE419.out | refine pS ?_ GE421.out | refine pS ?_ GE431.out) | exact HB.out))) : w.heap.size ≤ gb441))
                      have n13_ := Aside0.mk ((by rw [hg]; exact (below_size (by repeat (first | (with_reducible first | exact HB.out | apply pA | apply pN | apply pD | refine pS ?_ GE408.out | refine pS ?_ GE419.out | refine pS ?_ GE421.out | refine pS ?_ GE431.out) | exact HB.out))) : w.heap.size ≤ gb441))
                      have n14_ := Aside0.mk ((by rw [hg]; exact Nat.ne_of_lt (blk_lt (g := gb408) (o := .cells #[.slice A0_0 l0_0.length c0_0, .bool a0_1] 37 (0, 0)) (by (with_reducible repeat (first | refine qN ?_ _ | refine qD ?_ | refine qA ?_ _)); exact BK408.out)) : gb408 ≠ gb441))
                      have n15_ := Aside0.mk ((by rw [hg]; exact Nat.ne_of_gt (blk_lt (g := gb408) (o := .cells #[.slice A0_0 l0_0.length c0_0, .bool a0_1] 37 (0, 0)) (by (with_reducible repeat (first | refine qN ?_ _ | refine qD ?_ | refine qA ?_ _)); exact BK408.out)) : gb441 ≠ gb408))
                      have n16_ := Aside0.mk ((by rw [hg]; exact Nat.ne_of_lt (blk_lt (g := gb419) (o := .cells #[.slice Ao33 x420000_2.length co33, .bool x420001_2] 37 (0, 0)) (by (with_reducible repeat (first | refine qN ?_ _ | refine qD ?_ | refine qA ?_ _)); exact BK419.out)) : gb419 ≠ gb441))
                      have n17_ := Aside0.mk ((by rw [hg]; exact Nat.ne_of_gt (blk_lt (g := gb419) (o := .cells #[.slice Ao33 x420000_2.length co33, .bool x420001_2] 37 (0, 0)) (by (with_reducible repeat (first | refine qN ?_ _ | refine qD ?_ | refine qA ?_ _)); exact BK419.out)) : gb441 ≠ gb419))
                      have n18_ := Aside0.mk ((by rw [hg]; exact Nat.ne_of_lt (blk_lt (g := gb421) (o := .cells #[.slice Ao41 x422000_2.length co41, .bool x422001_2] 37 (0, 0)) (by (with_reducible repeat (first | refine qN ?_ _ | refine qD ?_ | refine qA ?_ _)); exact BK421.out)) : gb421 ≠ gb441))
                      have n19_ := Aside0.mk ((by rw [hg]; exact Nat.ne_of_gt (blk_lt (g := gb421) (o := .cells #[.slice Ao41 x422000_2.length co41, .bool x422001_2] 37 (0, 0)) (by (with_reducible repeat (first | refine qN ?_ _ | refine qD ?_ | refine qA ?_ _)); exact BK421.out)) : gb441 ≠ gb421))
                      have n20_ := Aside0.mk ((by rw [hg]; exact Nat.ne_of_lt (blk_lt (g := gb431) (o := .cells #[.slice Ao38 t423.length co38, .bool t426] 37 (0, 0)) (by (with_reducible repeat (first | refine qN ?_ _ | refine qD ?_ | refine qA ?_ _)); exact BK431.out)) : gb431 ≠ gb441))
                      have n21_ := Aside0.mk ((by rw [hg]; exact Nat.ne_of_gt (blk_lt (g := gb431) (o := .cells #[.slice Ao38 t423.length co38, .bool t426] 37 (0, 0)) (by (with_reducible repeat (first | refine qN ?_ _ | refine qD ?_ | refine qA ?_ _)); exact BK431.out)) : gb441 ≠ gb431))
                      clear HO_420000
                      clear HO_422000
                      clear HO425
                      clear HO429
                      clear HO435
                      clear HO439
                      clear BK408
                      clear BK419
                      clear BK421
                      clear BK431
                      clear HB
                      have HO_420000 := n0_
                      have HO_422000 := n1_
                      have HO425 := n2_
                      have HO429 := n3_
                      have HO435 := n4_
                      have HO439 := n5_
                      have BK408 := n6_
                      have BK419 := n7_
                      have BK421 := n8_
                      have BK431 := n9_
                      have HB := n10_
                      have BK441 := n11_
                      have GW441 := n12_
                      have GE441 := n13_
                      have NB408_441 := n14_
                      have NB441_408 := n15_
                      have NB419_441 := n16_
                      have NB441_419 := n17_
                      have NB421_441 := n18_
                      have NB441_421 := n19_
                      have NB431_441 := n20_
                      have NB441_431 := n21_
                      clear n0_ n1_ n2_ n3_ n4_ n5_ n6_ n7_ n8_ n9_ n10_ n11_ n12_ n13_ n14_ n15_ n16_ n17_ n18_ n19_ n20_ n21_
                      clear hb hbox hg
                      refine hK.out _ _ ⟨(blk_cell BK421.out 0).trans rfl, (blk_cell BK421.out 1).trans rfl, ((HB.out.cell (World.block_lt_of_cell? w _ hw432_0)).trans hw432_0)⟩ (fun hHeld => ?_)
                      clear hK K
                      refine norm_ (a' := ?_) ?_ ?_
                      rotate_left
                      · show Act.put _ (some 14) _ = _
                        simp only [Act.put, List.setIfInBounds_toArray, List.set_cons_zero, List.set_cons_succ, i64_w, i32_w]
                        rfl
                      exact norm_ (by simp only [putAll, Act.put, List.setIfInBounds_toArray, List.set_cons_zero, List.set_cons_succ]) (hCont (v434, v438, gb441) _ ⟨hHeld, (by (with_reducible repeat (first | apply Kd.R_alloc | apply Kd.R_drewN | apply Kd.R_drew)); exact Kd.R_mono HO425.out (fun _ hk => ⟨hk.1.1.2.2, ⟨hk.1.2, ⟨hk.2, ⟨hk.1.1.1, hk.1.1.2.1⟩⟩⟩⟩)), (by (with_reducible repeat (first | apply Kd.R_alloc | apply Kd.R_drewN | apply Kd.R_drew)); exact Kd.R_mono HO429.out (fun _ hk => ⟨hk.1.1.2.2, ⟨hk.1.2, ⟨hk.2, ⟨hk.1.1.1, hk.1.1.2.1⟩⟩⟩⟩)), (by (with_reducible repeat (first | apply Kd.R_alloc | apply Kd.R_drewN | apply Kd.R_drew)); exact Kd.R_mono HO435.out (fun _ hk => ⟨hk.1.2, ⟨hk.2, ⟨hk.1.1.1.1, ⟨hk.1.1.1.2, hk.1.1.2⟩⟩⟩⟩)), (by (with_reducible repeat (first | apply Kd.R_alloc | apply Kd.R_drewN | apply Kd.R_drew)); exact Kd.R_mono HO439.out (fun _ hk => ⟨hk.1.2, ⟨hk.2, ⟨hk.1.1.1.1, ⟨hk.1.1.1.2, hk.1.1.2⟩⟩⟩⟩)), (by (with_reducible repeat (first | apply Kd.R_alloc | apply Kd.R_drewN | apply Kd.R_drew)); exact Kd.R_mono HO_420000.out (fun _ hk => ⟨hk.1.1.2.1, ⟨hk.1.1.2.2, ⟨hk.1.2, ⟨hk.2, hk.1.1.1⟩⟩⟩⟩)), (by (with_reducible repeat (first | apply Kd.R_alloc | apply Kd.R_drewN | apply Kd.R_drew)); exact Kd.R_mono HO_422000.out (fun _ hk => ⟨hk.1.1.2.1, ⟨hk.1.1.2.2, ⟨hk.1.2, ⟨hk.2, hk.1.1.1⟩⟩⟩⟩)), (by (with_reducible repeat (first | refine qN ?_ _ | refine qD ?_ | refine qA ?_ _)); exact BK408.out), (by (with_reducible repeat (first | refine qN ?_ _ | refine qD ?_ | refine qA ?_ _)); exact BK419.out), (by (with_reducible repeat (first | refine qN ?_ _ | refine qD ?_ | refine qA ?_ _)); exact BK421.out), (by (with_reducible repeat (first | refine qN ?_ _ | refine qD ?_ | refine qA ?_ _)); exact BK431.out), (by (with_reducible repeat (first | refine qN ?_ _ | refine qD ?_ | refine qA ?_ _)); exact BK441.out), GW441.out, GE441.out, NB408_441.out, NB441_408.out, NB419_441.out, NB441_419.out, NB421_441.out, NB441_421.out, NB431_441.out, NB441_431.out, (by repeat (first | (with_reducible first | exact HB.out | apply pA | apply pN | apply pD | refine pS ?_ GE408.out | refine pS ?_ GE419.out | refine pS ?_ GE421.out | refine pS ?_ GE431.out | refine pS ?_ GE441.out) | exact HB.out))⟩)
                    · skip
                      refine box_step ?hg (N := 14) ?hd (cs := #[.slice none 0 0, .bool false]) (t := 37) ?hr ?_; (case hd => rfl); (case hg => rfl); (case hr => first | (go_simp; done) | (go_simp; rfl))
                      intro gb441 hg w44 hbox hb
                      have n0_ := Aside0.mk (Kd.R_below (by (with_reducible repeat (first | apply Kd.R_alloc | apply Kd.R_drewN | apply Kd.R_drew)); exact HO_420000.out) hb)
                      have n1_ := Aside0.mk (Kd.R_below (by (with_reducible repeat (first | apply Kd.R_alloc | apply Kd.R_drewN | apply Kd.R_drew)); exact HO_422000.out) hb)
                      have n2_ := Aside0.mk (Kd.R_below (by (with_reducible repeat (first | apply Kd.R_alloc | apply Kd.R_drewN | apply Kd.R_drew)); exact HO425.out) hb)
                      have n3_ := Aside0.mk (Kd.R_below (by (with_reducible repeat (first | apply Kd.R_alloc | apply Kd.R_drewN | apply Kd.R_drew)); exact HO429.out) hb)
                      have n4_ := Aside0.mk (blk_below (g := gb408) (o := .cells #[.slice A0_0 l0_0.length c0_0, .bool a0_1] 37 (0, 0)) (by (with_reducible repeat (first | refine qN ?_ _ | refine qD ?_ | refine qA ?_ _)); exact BK408.out) hb)
                      have n5_ := Aside0.mk (blk_below (g := gb419) (o := .cells #[.slice Ao33 x420000_2.length co33, .bool x420001_2] 37 (0, 0)) (by (with_reducible repeat (first | refine qN ?_ _ | refine qD ?_ | refine qA ?_ _)); exact BK419.out) hb)
                      have n6_ := Aside0.mk (blk_below (g := gb421) (o := .cells #[.slice Ao41 x422000_2.length co41, .bool x422001_2] 37 (0, 0)) (by (with_reducible repeat (first | refine qN ?_ _ | refine qD ?_ | refine qA ?_ _)); exact BK421.out) hb)
                      have n7_ := Aside0.mk (blk_below (g := gb431) (o := .cells #[.slice Ao38 t423.length co38, .bool t426] 37 (0, 0)) (by (with_reducible repeat (first | refine qN ?_ _ | refine qD ?_ | refine qA ?_ _)); exact BK431.out) hb)
                      have n8_ := Aside0.mk (below_step (by repeat (first | (with_reducible first | exact HB.out | apply pA | apply pN | apply pD | refine pS ?_ GE408.out | refine pS ?_ GE419.out | refine pS ?_ GE421.out | refine pS ?_ GE431.out) | exact HB.out)) hb)
                      have n9_ := Aside0.mk (hbox)
                      have n10_ := Aside0.mk ((by rw [hg]; exact (below_size (by repeat (first | (with_reducible first | exact HB.out | apply pA | apply pN | apply pD | refine pS ?_ GE408.out | refine pS ?_ GE419.out | refine pS ?_ GE421.out | refine pS ?_ GE431.out) | exact HB.out))) : w.heap.size ≤ gb441))
                      have n11_ := Aside0.mk ((by rw [hg]; exact (below_size (by repeat (first | (with_reducible first | exact HB.out | apply pA | apply pN | apply pD | refine pS ?_ GE408.out | refine pS ?_ GE419.out | refine pS ?_ GE421.out | refine pS ?_ GE431.out) | exact HB.out))) : w.heap.size ≤ gb441))
                      have n12_ := Aside0.mk ((by rw [hg]; exact Nat.ne_of_lt (blk_lt (g := gb408) (o := .cells #[.slice A0_0 l0_0.length c0_0, .bool a0_1] 37 (0, 0)) (by (with_reducible repeat (first | refine qN ?_ _ | refine qD ?_ | refine qA ?_ _)); exact BK408.out)) : gb408 ≠ gb441))
                      have n13_ := Aside0.mk ((by rw [hg]; exact Nat.ne_of_gt (blk_lt (g := gb408) (o := .cells #[.slice A0_0 l0_0.length c0_0, .bool a0_1] 37 (0, 0)) (by (with_reducible repeat (first | refine qN ?_ _ | refine qD ?_ | refine qA ?_ _)); exact BK408.out)) : gb441 ≠ gb408))
                      have n14_ := Aside0.mk ((by rw [hg]; exact Nat.ne_of_lt (blk_lt (g := gb419) (o := .cells #[.slice Ao33 x420000_2.length co33, .bool x420001_2] 37 (0, 0)) (by (with_reducible repeat (first | refine qN ?_ _ | refine qD ?_ | refine qA ?_ _)); exact BK419.out)) : gb419 ≠ gb441))
                      have n15_ := Aside0.mk ((by rw [hg]; exact Nat.ne_of_gt (blk_lt (g := gb419) (o := .cells #[.slice Ao33 x420000_2.length co33, .bool x420001_2] 37 (0, 0)) (by (with_reducible repeat (first | refine qN ?_ _ | refine qD ?_ | refine qA ?_ _)); exact BK419.out)) : gb441 ≠ gb419))
                      have n16_ := Aside0.mk ((by rw [hg]; exact Nat.ne_of_lt (blk_lt (g := gb421) (o := .cells #[.slice Ao41 x422000_2.length co41, .bool x422001_2] 37 (0, 0)) (by (with_reducible repeat (first | refine qN ?_ _ | refine qD ?_ | refine qA ?_ _)); exact BK421.out)) : gb421 ≠ gb441))
                      have n17_ := Aside0.mk ((by rw [hg]; exact Nat.ne_of_gt (blk_lt (g := gb421) (o := .cells #[.slice Ao41 x422000_2.length co41, .bool x422001_2] 37 (0, 0)) (by (with_reducible repeat (first | refine qN ?_ _ | refine qD ?_ | refine qA ?_ _)); exact BK421.out)) : gb441 ≠ gb421))
                      have n18_ := Aside0.mk ((by rw [hg]; exact Nat.ne_of_lt (blk_lt (g := gb431) (o := .cells #[.slice Ao38 t423.length co38, .bool t426] 37 (0, 0)) (by (with_reducible repeat (first | refine qN ?_ _ | refine qD ?_ | refine qA ?_ _)); exact BK431.out)) : gb431 ≠ gb441))
                      have n19_ := Aside0.mk ((by rw [hg]; exact Nat.ne_of_gt (blk_lt (g := gb431) (o := .cells #[.slice Ao38 t423.length co38, .bool t426] 37 (0, 0)) (by (with_reducible repeat (first | refine qN ?_ _ | refine qD ?_ | refine qA ?_ _)); exact BK431.out)) : gb441 ≠ gb431))
                      clear HO_420000
                      clear HO_422000
                      clear HO425
                      clear HO429
                      clear BK408
                      clear BK419
                      clear BK421
                      clear BK431
                      clear HB
                      have HO_420000 := n0_
                      have HO_422000 := n1_
                      have HO425 := n2_
                      have HO429 := n3_
                      have BK408 := n4_
                      have BK419 := n5_
                      have BK421 := n6_
                      have BK431 := n7_
                      have HB := n8_
                      have BK441 := n9_
                      have GW441 := n10_
                      have GE441 := n11_
                      have NB408_441 := n12_
                      have NB441_408 := n13_
                      have NB419_441 := n14_
                      have NB441_419 := n15_
                      have NB421_441 := n16_
                      have NB441_421 := n17_
                      have NB431_441 := n18_
                      have NB441_431 := n19_
                      clear n0_ n1_ n2_ n3_ n4_ n5_ n6_ n7_ n8_ n9_ n10_ n11_ n12_ n13_ n14_ n15_ n16_ n17_ n18_ n19_
                      clear hb hbox hg
                      refine hK.out _ _ ⟨(blk_cell BK421.out 0).trans rfl, (blk_cell BK421.out 1).trans rfl, ((HB.out.cell (World.block_lt_of_cell? w _ hw432_0)).trans hw432_0)⟩ (fun hHeld => ?_)
                      clear hK K
                      refine norm_ (a' := ?_) ?_ ?_
                      rotate_left
                      · show Act.put _ (some 14) _ = _
                        simp only [Act.put, List.setIfInBounds_toArray, List.set_cons_zero, List.set_cons_succ, i64_w, i32_w]
                        rfl
                      refine one_ (i := 5) (N := some 60) #[true, true, true, true, true, true, false, false, false, false, true, false, false, false] rfl rfl (one_of HT_.out (by kernel_rfl)) (by decide) (fun K hK => ?_)
                      refine goes_ Try.func22 (by kernel_rfl) rfl #[.agg #[.slice Ao41 x422000_2.length co41, .bool x422001_2], .int .u8 (rd l1 x10_2)] (by rfl) rfl rfl (by (try simp only [List.map_toArray, List.map_cons, List.map_nil]); first | done | rfl | (simp only [List.length_drop, List.length_take]; rfl)) ?_
                      with_reducible refine (stuff_Feed.calls k2 _ _ x422000_2 x422001_2 (rd l1 x10_2) t433 t436 t437 t440 _ ?side1 ?side2 A31.out).mono ?_
                      (case side1 => repeat (first | exact (Kd.R_reads' HO_422000.out).2.2 | (with_reducible refine Kd.C_alloc ?_ _) | (with_reducible refine Kd.C_drewN ?_ _) | (with_reducible refine Kd.C_drew ?_)))
                      (case side2 => exact (Kd.R_reads' HO_422000.out).2.1)
                      rintro e w45 ⟨v434, v438, rfl, ho0, ho1, hb⟩
                      refine ⟨_, rfl, ?_⟩
                      have n0_ := Aside0.mk (Kd.R_mono (Kd.R_told (Kd.R_told (Kd.R_old (by (with_reducible repeat (first | apply Kd.R_alloc | apply Kd.R_drewN | apply Kd.R_drew)); exact HO_420000.out) hb) (Kd.R_base ho0)) (Kd.R_base ho1)) (fun _ h_ => h_.1))
                      have n1_ := Aside0.mk (Kd.R_mono (Kd.R_told (Kd.R_told (Kd.R_old (by (with_reducible repeat (first | apply Kd.R_alloc | apply Kd.R_drewN | apply Kd.R_drew)); exact HO_422000.out) hb) (Kd.R_base ho0)) (Kd.R_base ho1)) (fun _ h_ => h_.1))
                      have n2_ := Aside0.mk (Kd.R_mono (Kd.R_told (Kd.R_told (Kd.R_old (by (with_reducible repeat (first | apply Kd.R_alloc | apply Kd.R_drewN | apply Kd.R_drew)); exact HO425.out) hb) (Kd.R_base ho0)) (Kd.R_base ho1)) (fun _ h_ => h_.1))
                      have n3_ := Aside0.mk (Kd.R_mono (Kd.R_told (Kd.R_told (Kd.R_old (by (with_reducible repeat (first | apply Kd.R_alloc | apply Kd.R_drewN | apply Kd.R_drew)); exact HO429.out) hb) (Kd.R_base ho0)) (Kd.R_base ho1)) (fun _ h_ => h_.1))
                      have n4_ := Aside0.mk (Kd.R_lower (Kd.R_new' (Kd.R_new' (Kd.R_new' (Kd.R_new' ho0 (Kd.R_lt (by (with_reducible repeat (first | apply Kd.R_alloc | apply Kd.R_drewN | apply Kd.R_drew)); exact HO_420000.out))) (Kd.R_lt (by (with_reducible repeat (first | apply Kd.R_alloc | apply Kd.R_drewN | apply Kd.R_drew)); exact HO_422000.out))) (Kd.R_lt (by (with_reducible repeat (first | apply Kd.R_alloc | apply Kd.R_drewN | apply Kd.R_drew)); exact HO425.out))) (Kd.R_lt (by (with_reducible repeat (first | apply Kd.R_alloc | apply Kd.R_drewN | apply Kd.R_drew)); exact HO429.out))) (below_size (by repeat (first | (with_reducible first | exact HB.out | apply pA | apply pN | apply pD | refine pS ?_ GE408.out | refine pS ?_ GE419.out | refine pS ?_ GE421.out | refine pS ?_ GE431.out | refine pS ?_ GE441.out) | exact HB.out))))
                      have n5_ := Aside0.mk (Kd.R_lower (Kd.R_new' (Kd.R_new' (Kd.R_new' (Kd.R_new' ho1 (Kd.R_lt (by (with_reducible repeat (first | apply Kd.R_alloc | apply Kd.R_drewN | apply Kd.R_drew)); exact HO_420000.out))) (Kd.R_lt (by (with_reducible repeat (first | apply Kd.R_alloc | apply Kd.R_drewN | apply Kd.R_drew)); exact HO_422000.out))) (Kd.R_lt (by (with_reducible repeat (first | apply Kd.R_alloc | apply Kd.R_drewN | apply Kd.R_drew)); exact HO425.out))) (Kd.R_lt (by (with_reducible repeat (first | apply Kd.R_alloc | apply Kd.R_drewN | apply Kd.R_drew)); exact HO429.out))) (below_size (by repeat (first | (with_reducible first | exact HB.out | apply pA | apply pN | apply pD | refine pS ?_ GE408.out | refine pS ?_ GE419.out | refine pS ?_ GE421.out | refine pS ?_ GE431.out | refine pS ?_ GE441.out) | exact HB.out))))
                      have n6_ := Aside0.mk (blk_below (g := gb408) (o := .cells #[.slice A0_0 l0_0.length c0_0, .bool a0_1] 37 (0, 0)) (by (with_reducible repeat (first | refine qN ?_ _ | refine qD ?_ | refine qA ?_ _)); exact BK408.out) hb)
                      have n7_ := Aside0.mk (blk_below (g := gb419) (o := .cells #[.slice Ao33 x420000_2.length co33, .bool x420001_2] 37 (0, 0)) (by (with_reducible repeat (first | refine qN ?_ _ | refine qD ?_ | refine qA ?_ _)); exact BK419.out) hb)
                      have n8_ := Aside0.mk (blk_below (g := gb421) (o := .cells #[.slice Ao41 x422000_2.length co41, .bool x422001_2] 37 (0, 0)) (by (with_reducible repeat (first | refine qN ?_ _ | refine qD ?_ | refine qA ?_ _)); exact BK421.out) hb)
                      have n9_ := Aside0.mk (blk_below (g := gb431) (o := .cells #[.slice Ao38 t423.length co38, .bool t426] 37 (0, 0)) (by (with_reducible repeat (first | refine qN ?_ _ | refine qD ?_ | refine qA ?_ _)); exact BK431.out) hb)
                      have n10_ := Aside0.mk (blk_below (g := gb441) (o := .cells #[.slice none 0 0, .bool false] 37 (0, 0)) (by (with_reducible repeat (first | refine qN ?_ _ | refine qD ?_ | refine qA ?_ _)); exact BK441.out) hb)
                      have n11_ := Aside0.mk (below_step (by repeat (first | (with_reducible first | exact HB.out | apply pA | apply pN | apply pD | refine pS ?_ GE408.out | refine pS ?_ GE419.out | refine pS ?_ GE421.out | refine pS ?_ GE431.out | refine pS ?_ GE441.out) | exact HB.out)) hb)
                      clear HO_420000
                      clear HO_422000
                      clear HO425
                      clear HO429
                      clear BK408
                      clear BK419
                      clear BK421
                      clear BK431
                      clear BK441
                      clear HB
                      have HO_420000 := n0_
                      have HO_422000 := n1_
                      have HO425 := n2_
                      have HO429 := n3_
                      have HO435 := n4_
                      have HO439 := n5_
                      have BK408 := n6_
                      have BK419 := n7_
                      have BK421 := n8_
                      have BK431 := n9_
                      have BK441 := n10_
                      have HB := n11_
                      clear n0_ n1_ n2_ n3_ n4_ n5_ n6_ n7_ n8_ n9_ n10_ n11_
                      (try clear hb)
                      (try clear hb2)
                      (try clear hk)
                      (try clear hi)
                      (try clear ho0)
                      (try clear ho1)
                      refine hK.out _ _ ⟨(blk_cell BK421.out 0).trans rfl, (blk_cell BK421.out 1).trans rfl, ((HB.out.cell (World.block_lt_of_cell? w _ hw432_0)).trans hw432_0)⟩ (fun hHeld => ?_)
                      clear hK K
                      refine norm_ (a' := ?_) ?_ ?_
                      rotate_left
                      · show Act.put _ (some 60) _ = _
                        simp only [Act.put, List.setIfInBounds_toArray, List.set_cons_zero, List.set_cons_succ, i64_w, i32_w]
                        rfl
                      refine pure_ (i := 6) (N := some 54) (v := ?_) (a' := ?_) #[true, true, true, true, true, true, true, false, false, false, true, false, false, false] rfl rfl (any_of HT_.out (by kernel_rfl)) (fun _ _ _ h => h) (Or.inl ⟨by rfl, ?_⟩) ?_ ?_
                      rotate_left
                      · intro w'
                        go_simp
                        with_reducible rfl
                      rotate_left
                      · simp only [Act.put, List.setIfInBounds_toArray, List.set_cons_zero, List.set_cons_succ, i64_w, i32_w]
                        rfl
                      refine pure_ (i := 7) (N := some 61) (v := ?_) (a' := ?_) #[true, true, true, true, true, true, true, true, false, false, true, false, false, false] rfl rfl (any_of HT_.out (by kernel_rfl)) (fun _ _ _ h => h) (Or.inl ⟨by rfl, ?_⟩) ?_ ?_
                      rotate_left
                      · intro w'
                        go_simp
                        with_reducible rfl
                      rotate_left
                      · simp only [Act.put, List.setIfInBounds_toArray, List.set_cons_zero, List.set_cons_succ, i64_w, i32_w]
                        rfl
                      refine pure_ (i := 8) (N := some 62) (v := ?_) (a' := ?_) #[true, true, true, true, true, true, true, true, true, false, true, false, false, false] rfl rfl (any_of HT_.out (by kernel_rfl)) (fun _ _ _ h => h) (Or.inl ⟨by rfl, ?_⟩) ?_ ?_
                      rotate_left
                      · intro w'
                        go_simp
                        with_reducible rfl
                      rotate_left
                      · simp only [Act.put, List.setIfInBounds_toArray, List.set_cons_zero, List.set_cons_succ, i64_w, i32_w]
                        rfl
                      refine pure_ (i := 9) (N := some 63) (v := ?_) (a' := ?_) #[true, true, true, true, true, true, true, true, true, true, true, false, false, false] rfl rfl (any_of HT_.out (by kernel_rfl)) (fun _ _ _ h => h) (Or.inl ⟨by rfl, ?_⟩) ?_ ?_
                      rotate_left
                      · intro w'
                        go_simp
                        with_reducible rfl
                      rotate_left
                      · simp only [Act.put, List.setIfInBounds_toArray, List.set_cons_zero, List.set_cons_succ, i64_w, i32_w]
                        rfl
                      exact norm_ (by simp only [putAll, Act.put, List.setIfInBounds_toArray, List.set_cons_zero, List.set_cons_succ]) (hCont (v434, v438, gb441) _ ⟨hHeld, (by (with_reducible repeat (first | apply Kd.R_alloc | apply Kd.R_drewN | apply Kd.R_drew)); exact Kd.R_mono HO425.out (fun _ hk => ⟨hk.1.1.2.2, ⟨hk.1.2, ⟨hk.2, ⟨hk.1.1.1, hk.1.1.2.1⟩⟩⟩⟩)), (by (with_reducible repeat (first | apply Kd.R_alloc | apply Kd.R_drewN | apply Kd.R_drew)); exact Kd.R_mono HO429.out (fun _ hk => ⟨hk.1.1.2.2, ⟨hk.1.2, ⟨hk.2, ⟨hk.1.1.1, hk.1.1.2.1⟩⟩⟩⟩)), (by (with_reducible repeat (first | apply Kd.R_alloc | apply Kd.R_drewN | apply Kd.R_drew)); exact Kd.R_mono HO435.out (fun _ hk => ⟨hk.1.2, ⟨hk.2, ⟨hk.1.1.1.1, ⟨hk.1.1.1.2, hk.1.1.2⟩⟩⟩⟩)), (by (with_reducible repeat (first | apply Kd.R_alloc | apply Kd.R_drewN | apply Kd.R_drew)); exact Kd.R_mono HO439.out (fun _ hk => ⟨hk.1.2, ⟨hk.2, ⟨hk.1.1.1.1, ⟨hk.1.1.1.2, hk.1.1.2⟩⟩⟩⟩)), (by (with_reducible repeat (first | apply Kd.R_alloc | apply Kd.R_drewN | apply Kd.R_drew)); exact Kd.R_mono HO_420000.out (fun _ hk => ⟨hk.1.1.2.1, ⟨hk.1.1.2.2, ⟨hk.1.2, ⟨hk.2, hk.1.1.1⟩⟩⟩⟩)), (by (with_reducible repeat (first | apply Kd.R_alloc | apply Kd.R_drewN | apply Kd.R_drew)); exact Kd.R_mono HO_422000.out (fun _ hk => ⟨hk.1.1.2.1, ⟨hk.1.1.2.2, ⟨hk.1.2, ⟨hk.2, hk.1.1.1⟩⟩⟩⟩)), (by (with_reducible repeat (first | refine qN ?_ _ | refine qD ?_ | refine qA ?_ _)); exact BK408.out), (by (with_reducible repeat (first | refine qN ?_ _ | refine qD ?_ | refine qA ?_ _)); exact BK419.out), (by (with_reducible repeat (first | refine qN ?_ _ | refine qD ?_ | refine qA ?_ _)); exact BK421.out), (by (with_reducible repeat (first | refine qN ?_ _ | refine qD ?_ | refine qA ?_ _)); exact BK431.out), (by (with_reducible repeat (first | refine qN ?_ _ | refine qD ?_ | refine qA ?_ _)); exact BK441.out), GW441.out, GE441.out, NB408_441.out, NB441_408.out, NB419_441.out, NB441_419.out, NB421_441.out, NB441_421.out, NB431_441.out, NB441_431.out, (by repeat (first | (with_reducible first | exact HB.out | apply pA | apply pN | apply pD | refine pS ?_ GE408.out | refine pS ?_ GE419.out | refine pS ?_ GE421.out | refine pS ?_ GE431.out | refine pS ?_ GE441.out) | exact HB.out))⟩)
                  rintro ⟨v434, v438, gb441⟩ w46 ⟨hS_, h0_, h1_, h2_, h3_, h4_, h5_, h6_, h7_, h8_, h9_, h10_, h11_, h12_, h13_, h14_, h15_, h16_, h17_, h18_, h19_, h20_, h21_⟩
                  have n0_ : Aside0 (Kd.R (Kd.int .u8) 5 w46 w.heap.size (fun k_ => some k_ ≠ (v428 : Value).ownBlock ∧ some k_ ≠ (v434 : Value).ownBlock ∧ some k_ ≠ (v438 : Value).ownBlock ∧ some k_ ≠ (.slice Ao33 x420000_2.length co33 : Value).ownBlock ∧ some k_ ≠ (.slice Ao41 x422000_2.length co41 : Value).ownBlock) (.slice Ao38 t423.length co38) t423) := ⟨h0_⟩
                  have n1_ : Aside0 (Kd.R (Kd.int .u8) 5 w46 w.heap.size (fun k_ => some k_ ≠ (.slice Ao38 t423.length co38 : Value).ownBlock ∧ some k_ ≠ (v434 : Value).ownBlock ∧ some k_ ≠ (v438 : Value).ownBlock ∧ some k_ ≠ (.slice Ao33 x420000_2.length co33 : Value).ownBlock ∧ some k_ ≠ (.slice Ao41 x422000_2.length co41 : Value).ownBlock) v428 t427) := ⟨h1_⟩
                  have n2_ : Aside0 (Kd.R (Kd.int .u8) 5 w46 w.heap.size (fun k_ => some k_ ≠ (.slice Ao38 t423.length co38 : Value).ownBlock ∧ some k_ ≠ (v428 : Value).ownBlock ∧ some k_ ≠ (v438 : Value).ownBlock ∧ some k_ ≠ (.slice Ao33 x420000_2.length co33 : Value).ownBlock ∧ some k_ ≠ (.slice Ao41 x422000_2.length co41 : Value).ownBlock) v434 t433) := ⟨h2_⟩
                  have n3_ : Aside0 (Kd.R (Kd.int .u8) 5 w46 w.heap.size (fun k_ => some k_ ≠ (.slice Ao38 t423.length co38 : Value).ownBlock ∧ some k_ ≠ (v428 : Value).ownBlock ∧ some k_ ≠ (v434 : Value).ownBlock ∧ some k_ ≠ (.slice Ao33 x420000_2.length co33 : Value).ownBlock ∧ some k_ ≠ (.slice Ao41 x422000_2.length co41 : Value).ownBlock) v438 t437) := ⟨h3_⟩
                  have n4_ : Aside0 (Kd.R (Kd.int .u8) 5 w46 w.heap.size (fun k_ => some k_ ≠ (.slice Ao38 t423.length co38 : Value).ownBlock ∧ some k_ ≠ (v428 : Value).ownBlock ∧ some k_ ≠ (v434 : Value).ownBlock ∧ some k_ ≠ (v438 : Value).ownBlock ∧ some k_ ≠ (.slice Ao41 x422000_2.length co41 : Value).ownBlock) (.slice Ao33 x420000_2.length co33) x420000_2) := ⟨h4_⟩
                  have n5_ : Aside0 (Kd.R (Kd.int .u8) 5 w46 w.heap.size (fun k_ => some k_ ≠ (.slice Ao38 t423.length co38 : Value).ownBlock ∧ some k_ ≠ (v428 : Value).ownBlock ∧ some k_ ≠ (v434 : Value).ownBlock ∧ some k_ ≠ (v438 : Value).ownBlock ∧ some k_ ≠ (.slice Ao33 x420000_2.length co33 : Value).ownBlock) (.slice Ao41 x422000_2.length co41) x422000_2) := ⟨h5_⟩
                  have n6_ : Aside0 (w46.heap[gb408]? = some (.cells #[.slice A0_0 l0_0.length c0_0, .bool a0_1] 37 (0, 0))) := ⟨h6_⟩
                  have n7_ : Aside0 (w46.heap[gb419]? = some (.cells #[.slice Ao33 x420000_2.length co33, .bool x420001_2] 37 (0, 0))) := ⟨h7_⟩
                  have n8_ : Aside0 (w46.heap[gb421]? = some (.cells #[.slice Ao41 x422000_2.length co41, .bool x422001_2] 37 (0, 0))) := ⟨h8_⟩
                  have n9_ : Aside0 (w46.heap[gb431]? = some (.cells #[.slice Ao38 t423.length co38, .bool t426] 37 (0, 0))) := ⟨h9_⟩
                  have n10_ : Aside0 (w46.heap[gb441]? = some (.cells #[.slice none 0 0, .bool false] 37 (0, 0))) := ⟨h10_⟩
                  have n11_ : Aside0 (w.heap.size ≤ gb441) := ⟨h11_⟩
                  have n12_ : Aside0 (w.heap.size ≤ gb441) := ⟨h12_⟩
                  have n13_ : Aside0 (gb408 ≠ gb441) := ⟨h13_⟩
                  have n14_ : Aside0 (gb441 ≠ gb408) := ⟨h14_⟩
                  have n15_ : Aside0 (gb419 ≠ gb441) := ⟨h15_⟩
                  have n16_ : Aside0 (gb441 ≠ gb419) := ⟨h16_⟩
                  have n17_ : Aside0 (gb421 ≠ gb441) := ⟨h17_⟩
                  have n18_ : Aside0 (gb441 ≠ gb421) := ⟨h18_⟩
                  have n19_ : Aside0 (gb431 ≠ gb441) := ⟨h19_⟩
                  have n20_ : Aside0 (gb441 ≠ gb431) := ⟨h20_⟩
                  have n21_ : Aside0 (Below w.heap.size w w46) := ⟨h21_⟩
                  clear HO_420000
                  clear HO_422000
                  clear HO425
                  clear HO429
                  clear BK408
                  clear BK419
                  clear BK421
                  clear BK431
                  clear HB
                  clear h0_ h1_ h2_ h3_ h4_ h5_ h6_ h7_ h8_ h9_ h10_ h11_ h12_ h13_ h14_ h15_ h16_ h17_ h18_ h19_ h20_ h21_
                  have HO425 := n0_
                  have HO429 := n1_
                  have HO435 := n2_
                  have HO439 := n3_
                  have HO_420000 := n4_
                  have HO_422000 := n5_
                  have BK408 := n6_
                  have BK419 := n7_
                  have BK421 := n8_
                  have BK431 := n9_
                  have BK441 := n10_
                  have GW441 := n11_
                  have GE441 := n12_
                  have NB408_441 := n13_
                  have NB441_408 := n14_
                  have NB419_441 := n15_
                  have NB441_419 := n16_
                  have NB421_441 := n17_
                  have NB441_421 := n18_
                  have NB431_441 := n19_
                  have NB441_431 := n20_
                  have HB := n21_
                  clear n0_ n1_ n2_ n3_ n4_ n5_ n6_ n7_ n8_ n9_ n10_ n11_ n12_ n13_ n14_ n15_ n16_ n17_ n18_ n19_ n20_ n21_
                  have hHeld : w46.cell? ⟨gb421, 0, none⟩ = some (.slice Ao41 x422000_2.length co41) ∧ w46.cell? ⟨gb421, 1, none⟩ = some (.bool x422001_2) ∧ w46.cell? (ad422.add (x10_2).toNat) = some (.int .u8 (rd l1 x10_2)) := hS_
                  obtain ⟨Ao47, co47, eo47⟩ := Kd.R_slice HO435.out
                  (first | subst eo47 | (injection eo47 with f1_ f2_ f3_; have f4_ := f1_.symm; have f5_ := f3_.symm; clear f1_ f2_ f3_; subst f4_; subst f5_))
                  refine norm_ (a' := ?_) ?_ ?_
                  rotate_left
                  · simp only [putAll, Act.put, List.setIfInBounds_toArray, List.set_cons_zero, List.set_cons_succ]
                    rfl
                  refine one_ (i := 11) (N := none) #[true, true, true, true, true, true, true, true, true, true, true, true, false, false] rfl rfl (one_of HT_.out (by kernel_rfl)) (by decide) (fun K hK => ?_)
                  have hs48 : w46.cell? ⟨gb441, 0, none⟩ = some (.slice none 0 0) := (blk_cell BK441.out 0).trans rfl
                  have hfs48 := blk_frozen BK441.out 0
                  have hns48_0 := NB408_441.out
                  have hns48_1 := NB419_441.out
                  have hns48_2 := NB421_441.out
                  have hns48_3 := NB431_441.out
                  have hms48_0 := NB441_408.out
                  have hms48_1 := NB441_419.out
                  have hms48_2 := NB441_421.out
                  have hms48_3 := NB441_431.out
                  have hs49 : w46.cell? ⟨gb441, 1, none⟩ = some (.bool false) := (blk_cell BK441.out 1).trans rfl
                  have hfs49 := blk_frozen BK441.out 1
                  have hns49_0 := NB408_441.out
                  have hns49_1 := NB419_441.out
                  have hns49_2 := NB421_441.out
                  have hns49_3 := NB431_441.out
                  have hms49_0 := NB441_408.out
                  have hms49_1 := NB441_419.out
                  have hms49_2 := NB441_421.out
                  have hms49_3 := NB441_431.out
                  refine skip_ (w1 := ?_) (by rfl) rfl ?_ ?_
                  rotate_left
                  · go_simp
                    rfl
                  refine hK.out _ _ ⟨((cell_far (p := ⟨gb441, _, none⟩) NB421_441.out _).trans (((cell_far (p := ⟨gb441, _, none⟩) NB421_441.out _).trans (hHeld.1)))), ((cell_far (p := ⟨gb441, _, none⟩) NB421_441.out _).trans (((cell_far (p := ⟨gb441, _, none⟩) NB421_441.out _).trans (hHeld.2.1)))), ((cell_far (p := ⟨gb441, _, none⟩) (by first | exact Nat.ne_of_lt (Nat.lt_of_lt_of_le (by have := World.block_lt_of_cell? _ _ hw432_0; first | rwa [add_block] at this | exact this) GW441.out) | (rw [add_block]; exact Nat.ne_of_lt (Nat.lt_of_lt_of_le (by have := World.block_lt_of_cell? _ _ hw432_0; first | rwa [add_block] at this | exact this) GW441.out)) | (show (Addr.add _ _).block ≠ _; rw [add_block]; exact Nat.ne_of_lt (Nat.lt_of_lt_of_le (by have := World.block_lt_of_cell? _ _ hw432_0; first | rwa [add_block] at this | exact this) GW441.out)) | (dsimp only; exact Nat.ne_of_lt (Nat.lt_of_lt_of_le (by have := World.block_lt_of_cell? _ _ hw432_0; first | rwa [add_block] at this | exact this) GW441.out))) _).trans (((cell_far (p := ⟨gb441, _, none⟩) (by first | exact Nat.ne_of_lt (Nat.lt_of_lt_of_le (by have := World.block_lt_of_cell? _ _ hw432_0; first | rwa [add_block] at this | exact this) GW441.out) | (rw [add_block]; exact Nat.ne_of_lt (Nat.lt_of_lt_of_le (by have := World.block_lt_of_cell? _ _ hw432_0; first | rwa [add_block] at this | exact this) GW441.out)) | (show (Addr.add _ _).block ≠ _; rw [add_block]; exact Nat.ne_of_lt (Nat.lt_of_lt_of_le (by have := World.block_lt_of_cell? _ _ hw432_0; first | rwa [add_block] at this | exact this) GW441.out)) | (dsimp only; exact Nat.ne_of_lt (Nat.lt_of_lt_of_le (by have := World.block_lt_of_cell? _ _ hw432_0; first | rwa [add_block] at this | exact this) GW441.out))) _).trans (hHeld.2.2))))⟩ (fun hHeld => ?_)
                  clear hK K
                  refine pure_ (i := 12) (N := some 15) (v := ?_) (a' := ?_) #[true, true, true, true, true, true, true, true, true, true, true, true, true, false] rfl rfl (any_of HT_.out (by kernel_rfl)) (fun _ _ _ h => h) (Or.inl ⟨by rfl, ?_⟩) ?_ ?_
                  rotate_left
                  · intro w'
                    go_simp
                    with_reducible rfl
                  rotate_left
                  · simp only [Act.put, List.setIfInBounds_toArray, List.set_cons_zero, List.set_cons_succ, i64_w, i32_w]
                    rfl
                  refine pure_ (i := 13) (N := some 16) (v := ?_) (a' := ?_) #[true, true, true, true, true, true, true, true, true, true, true, true, true, true] rfl rfl (any_of HT_.out (by kernel_rfl)) (fun _ _ _ h => h) (Or.inl ⟨by rfl, ?_⟩) ?_ ?_
                  rotate_left
                  · intro w'
                    go_simp
                    with_reducible rfl
                  rotate_left
                  · simp only [Act.put, List.setIfInBounds_toArray, List.set_cons_zero, List.set_cons_succ, i64_w, i32_w]
                    rfl
                  refine done_ (done_of HT_.out (by kernel_rfl)) ?_
                  go_upto_region 13 with (fail)
                  go_cut [78] (fun v78 wc => ∃ (kq : Nat) (x78_31 : Bool), v78 = .bool x78_31 ∧ Aside0 (portreevelaw07_StuffAnew.j2 kq l1 t409 x10_2 x78_31 t423 t426 t433 t436 = some r) ∧ Aside0 (kq ≤ k2) ∧ Aside0 (Kd.R (Kd.int .u8) 5 wc w.heap.size (fun k_ => some k_ ≠ ((.slice Ao41 x422000_2.length co41) : Value).ownBlock ∧ some k_ ≠ ((.slice Ao38 t423.length co38) : Value).ownBlock ∧ some k_ ≠ ((.slice Ao47 t433.length co47) : Value).ownBlock) (.slice Ao33 x420000_2.length co33) x420000_2) ∧ Aside0 (Kd.R (Kd.int .u8) 5 wc w.heap.size (fun k_ => some k_ ≠ ((.slice Ao33 x420000_2.length co33) : Value).ownBlock ∧ some k_ ≠ ((.slice Ao38 t423.length co38) : Value).ownBlock ∧ some k_ ≠ ((.slice Ao47 t433.length co47) : Value).ownBlock) (.slice Ao41 x422000_2.length co41) x422000_2) ∧ Aside0 (Kd.R (Kd.int .u8) 5 wc w.heap.size (fun k_ => some k_ ≠ ((.slice Ao33 x420000_2.length co33) : Value).ownBlock ∧ some k_ ≠ ((.slice Ao41 x422000_2.length co41) : Value).ownBlock ∧ some k_ ≠ ((.slice Ao47 t433.length co47) : Value).ownBlock) (.slice Ao38 t423.length co38) t423) ∧ Aside0 (Kd.R (Kd.int .u8) 5 wc w.heap.size (fun k_ => some k_ ≠ ((.slice Ao33 x420000_2.length co33) : Value).ownBlock ∧ some k_ ≠ ((.slice Ao41 x422000_2.length co41) : Value).ownBlock ∧ some k_ ≠ ((.slice Ao38 t423.length co38) : Value).ownBlock) (.slice Ao47 t433.length co47) t433) ∧ Aside0 (wc.heap[gb408]? = some (.cells #[(.slice A0_0 l0_0.length c0_0), .bool a0_1] 37 (0, 0))) ∧ Aside0 (wc.heap[gb419]? = some (.cells #[(.slice Ao33 x420000_2.length co33), .bool x420001_2] 37 (0, 0))) ∧ Aside0 (wc.heap[gb421]? = some (.cells #[(.slice Ao41 x422000_2.length co41), .bool x422001_2] 37 (0, 0))) ∧ Aside0 (wc.heap[gb431]? = some (.cells #[(.slice Ao38 t423.length co38), .bool t426] 37 (0, 0))) ∧ Aside0 (wc.heap[gb441]? = some (.cells #[(.slice Ao47 t433.length co47), .bool t436] 37 (0, 0))) ∧ Aside0 (Below w.heap.size w wc))
                  case first =>
                    have H := HC32.out
                    clear HC32
                    by_cases c50 : (t430 != t440) = true
                    · rw [if_pos c50] at H
                      have c50b0 : (t430 != t440) = true := c50
                      (try (have c50b1 : decide (t430 = t440) = false := by simpa using c50))
                      (try (have c50b2 : (t430 == t440) = false := by simpa using c50))
                      (try (have c50b3 : ¬ (t430 = t440) := by simpa using c50))
                      clear c50
                      (first | rw [c50b0] | (simp only [i64_w, i32_w]; rw [c50b0]) | skip)
                      have H' := Aside0.mk H
                      clear H
                      go_wp2
                      go_meet
                      case rel => exact ⟨_, (true), (by first | rfl | (simp; done) | (simp [*]; done)), H', ⟨by have := HJ3.out; have := HK2.out; first | omega | exact Nat.le_refl _⟩, ⟨by (with_reducible repeat (first | apply Kd.R_alloc | apply Kd.R_drewN | apply Kd.R_drew)); exact Kd.R_mono (Kd.R_far (p := ⟨gb441, 1, none⟩) (Kd.R_far (p := ⟨gb441, 0, none⟩) (Kd.R_types HO_420000.out BK441.out (by decide)) (fun _ hk => hk.2) (.slice Ao47 t433.length co47)) (fun _ hk => hk.2) (.bool t436)) (fun _ hk => ⟨hk.1.2.2.2.2, ⟨hk.1.1, hk.1.2.2.1⟩⟩)⟩, ⟨by (with_reducible repeat (first | apply Kd.R_alloc | apply Kd.R_drewN | apply Kd.R_drew)); exact Kd.R_mono (Kd.R_far (p := ⟨gb441, 1, none⟩) (Kd.R_far (p := ⟨gb441, 0, none⟩) (Kd.R_types HO_422000.out BK441.out (by decide)) (fun _ hk => hk.2) (.slice Ao47 t433.length co47)) (fun _ hk => hk.2) (.bool t436)) (fun _ hk => ⟨hk.1.2.2.2.2, ⟨hk.1.1, hk.1.2.2.1⟩⟩)⟩, ⟨by (with_reducible repeat (first | apply Kd.R_alloc | apply Kd.R_drewN | apply Kd.R_drew)); exact Kd.R_mono (Kd.R_far (p := ⟨gb441, 1, none⟩) (Kd.R_far (p := ⟨gb441, 0, none⟩) (Kd.R_types HO425.out BK441.out (by decide)) (fun _ hk => hk.2) (.slice Ao47 t433.length co47)) (fun _ hk => hk.2) (.bool t436)) (fun _ hk => ⟨hk.1.2.2.2.1, ⟨hk.1.2.2.2.2, hk.1.2.1⟩⟩)⟩, ⟨by (with_reducible repeat (first | apply Kd.R_alloc | apply Kd.R_drewN | apply Kd.R_drew)); exact Kd.R_mono (Kd.R_far (p := ⟨gb441, 1, none⟩) (Kd.R_far (p := ⟨gb441, 0, none⟩) (Kd.R_types HO435.out BK441.out (by decide)) (fun _ hk => hk.2) (.slice Ao47 t433.length co47)) (fun _ hk => hk.2) (.bool t436)) (fun _ hk => ⟨hk.1.2.2.2.1, ⟨hk.1.2.2.2.2, hk.1.1⟩⟩)⟩, ⟨by (with_reducible repeat (first | refine qN ?_ _ | refine qD ?_ | refine qA ?_ _)); refine blk_far ?_ NB408_441.out _; (with_reducible repeat (first | refine qN ?_ _ | refine qD ?_ | refine qA ?_ _)); refine blk_far ?_ NB408_441.out _; (with_reducible repeat (first | refine qN ?_ _ | refine qD ?_ | refine qA ?_ _)); exact BK408.out⟩, ⟨by (with_reducible repeat (first | refine qN ?_ _ | refine qD ?_ | refine qA ?_ _)); refine blk_far ?_ NB419_441.out _; (with_reducible repeat (first | refine qN ?_ _ | refine qD ?_ | refine qA ?_ _)); refine blk_far ?_ NB419_441.out _; (with_reducible repeat (first | refine qN ?_ _ | refine qD ?_ | refine qA ?_ _)); exact BK419.out⟩, ⟨by (with_reducible repeat (first | refine qN ?_ _ | refine qD ?_ | refine qA ?_ _)); refine blk_far ?_ NB421_441.out _; (with_reducible repeat (first | refine qN ?_ _ | refine qD ?_ | refine qA ?_ _)); refine blk_far ?_ NB421_441.out _; (with_reducible repeat (first | refine qN ?_ _ | refine qD ?_ | refine qA ?_ _)); exact BK421.out⟩, ⟨by (with_reducible repeat (first | refine qN ?_ _ | refine qD ?_ | refine qA ?_ _)); refine blk_far ?_ NB431_441.out _; (with_reducible repeat (first | refine qN ?_ _ | refine qD ?_ | refine qA ?_ _)); refine blk_far ?_ NB431_441.out _; (with_reducible repeat (first | refine qN ?_ _ | refine qD ?_ | refine qA ?_ _)); exact BK431.out⟩, ⟨by (with_reducible repeat (first | refine qN ?_ _ | refine qD ?_ | refine qA ?_ _)); refine blk_put (cs := #[.slice Ao47 t433.length co47, .bool false]) ?_ 1 _ rfl; (with_reducible repeat (first | refine qN ?_ _ | refine qD ?_ | refine qA ?_ _)); refine blk_put (cs := #[.slice none 0 0, .bool false]) ?_ 0 _ rfl; (with_reducible repeat (first | refine qN ?_ _ | refine qD ?_ | refine qA ?_ _)); exact BK441.out⟩, ⟨by repeat (first | (with_reducible first | exact HB.out | apply pA | apply pN | apply pD | refine pS ?_ GE408.out | refine pS ?_ GE419.out | refine pS ?_ GE421.out | refine pS ?_ GE431.out | refine pS ?_ GE441.out) | exact HB.out)⟩⟩
                    · rw [if_neg c50] at H
                      have c50b0 : (t430 != t440) = false := by simpa using c50
                      (try (have c50b1 : decide (t430 = t440) = true := by simpa using c50))
                      (try (have c50b2 : (t430 == t440) = true := by simpa using c50))
                      clear c50
                      (first | rw [c50b0] | (simp only [i64_w, i32_w]; rw [c50b0]) | skip)
                      replace H := Option.bind_eq_some_iff.mp H
                      obtain ⟨t442, A510, H⟩ := H
                      replace H : (if t442 = true then ((portreeveref07_Same.f k2 t423 t426 t433 t436).bind fun t443 => (portreevelaw07_StuffAnew.j2 k2 l1 t409 x10_2 (!t443) t423 t426 t433 t436)) else (portreevelaw07_StuffAnew.j2 k2 l1 t409 x10_2 true t423 t426 t433 t436)) = some r := H
                      have A51 := Aside0.mk A510
                      clear A510
                      by_cases c52 : t442 = true
                      · subst c52
                        have H1 : ((portreeveref07_Same.f k2 t423 t426 t433 t436).bind fun t443 => (portreevelaw07_StuffAnew.j2 k2 l1 t409 x10_2 (!t443) t423 t426 t433 t436)) = some r := by rw [if_pos rfl] at H; exact H
                        clear H
                        have H := H1
                        clear H1
                        replace H := Option.bind_eq_some_iff.mp H
                        obtain ⟨t443, A530, H⟩ := H
                        replace H : (portreevelaw07_StuffAnew.j2 k2 l1 t409 x10_2 (!t443) t423 t426 t433 t436) = some r := H
                        have A53 := Aside0.mk A530
                        clear A530
                        have H' := Aside0.mk H
                        clear H
                        obtain ⟨Ao54, co54, eo54⟩ := Kd.R_slice HO429.out
                        subst eo54
                        obtain ⟨Ao55, co55, eo55⟩ := Kd.R_slice HO439.out
                        subst eo55
                        go_wp2_with (first | (go_at_call 13; (with_reducible refine (portreeveref01_Row.calls k2 _ _ t427 _ _ t437 true _ ?side1 ?side2 ?side3 ?side4 A51.out).mono ?_); (case side1 => refine (Kd.R_reads' (e := 5) (base := w.heap.size) (ok := fun k_ => (some k_ ≠ (.slice Ao38 t423.length co38 : Value).ownBlock ∧ (some k_ ≠ (.slice Ao47 t433.length co47 : Value).ownBlock ∧ (some k_ ≠ (.slice Ao55 t437.length co55 : Value).ownBlock ∧ (some k_ ≠ (.slice Ao33 x420000_2.length co33 : Value).ownBlock ∧ some k_ ≠ (.slice Ao41 x422000_2.length co41 : Value).ownBlock))))) (n := t427.length) (c := co54) ?_).2.2; exact (by (with_reducible repeat (first | apply Kd.R_alloc | apply Kd.R_drewN | apply Kd.R_drew)); exact (Kd.R_mono (Kd.R_far (p := ⟨gb441, 1, none⟩) (Kd.R_far (p := ⟨gb441, 0, none⟩) (Kd.R_types HO429.out BK441.out (by decide)) (fun _ hk => hk.2) (.slice Ao47 t433.length co47)) (fun _ hk => hk.2) (.bool t436)) (fun _ h_ => h_.1)))); (case side2 => exact (Kd.R_reads' HO429.out).2.1); (case side3 => refine (Kd.R_reads' (e := 5) (base := w.heap.size) (ok := fun k_ => (some k_ ≠ (.slice Ao38 t423.length co38 : Value).ownBlock ∧ (some k_ ≠ (.slice Ao54 t427.length co54 : Value).ownBlock ∧ (some k_ ≠ (.slice Ao47 t433.length co47 : Value).ownBlock ∧ (some k_ ≠ (.slice Ao33 x420000_2.length co33 : Value).ownBlock ∧ some k_ ≠ (.slice Ao41 x422000_2.length co41 : Value).ownBlock))))) (n := t437.length) (c := co55) ?_).2.2; exact (by (with_reducible repeat (first | apply Kd.R_alloc | apply Kd.R_drewN | apply Kd.R_drew)); exact (Kd.R_mono (Kd.R_far (p := ⟨gb441, 1, none⟩) (Kd.R_far (p := ⟨gb441, 0, none⟩) (Kd.R_types HO439.out BK441.out (by decide)) (fun _ hk => hk.2) (.slice Ao47 t433.length co47)) (fun _ hk => hk.2) (.bool t436)) (fun _ h_ => h_.1)))); (case side4 => exact (Kd.R_reads' HO439.out).2.1); rintro e w' ⟨rfl, ⟨nd, rfl⟩⟩; have hnb56 := NB431_408.out; have hnc56 := NB408_431.out; have hnb57 := NB431_419.out; have hnc57 := NB419_431.out; have hnb58 := NB431_421.out; have hnc58 := NB421_431.out; have hnb59 := NB431_441.out; have hnc59 := NB441_431.out; have hcz60_0 : w46.cell? ⟨gb431, 0, none⟩ = some (.slice Ao38 t423.length co38) := (blk_cell BK431.out 0).trans rfl; have hcz60_1 : w46.cell? ⟨gb431, 1, none⟩ = some (.bool t426) := (blk_cell BK431.out 1).trans rfl; have hfz60_0 := blk_frozen BK431.out 0; have hfz60_1 := blk_frozen BK431.out 1; have hnb61 := NB441_408.out; have hnc61 := NB408_441.out; have hnb62 := NB441_419.out; have hnc62 := NB419_441.out; have hnb63 := NB441_421.out; have hnc63 := NB421_441.out; have hcz64_0 : w46.cell? ⟨gb441, 0, none⟩ = some (.slice none 0 0) := (blk_cell BK441.out 0).trans rfl; have hcz64_1 : w46.cell? ⟨gb441, 1, none⟩ = some (.bool false) := (blk_cell BK441.out 1).trans rfl; have hfz64_0 := blk_frozen BK441.out 0; have hfz64_1 := blk_frozen BK441.out 1) | (go_at_call 24; (with_reducible refine (portreeveref07_Same.calls k2 _ _ t423 t426 _ _ t433 t436 t443 _ ?side1 ?side2 ?side3 ?side4 A53.out).mono ?_); (case side1 => refine (Kd.R_reads' (e := 5) (base := w.heap.size) (ok := fun k_ => (some k_ ≠ (.slice Ao54 t427.length co54 : Value).ownBlock ∧ (some k_ ≠ (.slice Ao47 t433.length co47 : Value).ownBlock ∧ (some k_ ≠ (.slice Ao55 t437.length co55 : Value).ownBlock ∧ (some k_ ≠ (.slice Ao33 x420000_2.length co33 : Value).ownBlock ∧ some k_ ≠ (.slice Ao41 x422000_2.length co41 : Value).ownBlock))))) (n := t423.length) (c := co38) ?_).2.2; exact (by (with_reducible repeat (first | apply Kd.R_alloc | apply Kd.R_drewN | apply Kd.R_drew)); exact (Kd.R_mono (Kd.R_far (p := ⟨gb441, 1, none⟩) (Kd.R_far (p := ⟨gb441, 0, none⟩) (Kd.R_types HO425.out BK441.out (by decide)) (fun _ hk => hk.2) (.slice Ao47 t433.length co47)) (fun _ hk => hk.2) (.bool t436)) (fun _ h_ => h_.1)))); (case side2 => exact (Kd.R_reads' HO425.out).2.1); (case side3 => refine (Kd.R_reads' (e := 5) (base := w.heap.size) (ok := fun k_ => (some k_ ≠ (.slice Ao38 t423.length co38 : Value).ownBlock ∧ (some k_ ≠ (.slice Ao54 t427.length co54 : Value).ownBlock ∧ (some k_ ≠ (.slice Ao55 t437.length co55 : Value).ownBlock ∧ (some k_ ≠ (.slice Ao33 x420000_2.length co33 : Value).ownBlock ∧ some k_ ≠ (.slice Ao41 x422000_2.length co41 : Value).ownBlock))))) (n := t433.length) (c := co47) ?_).2.2; exact (by (with_reducible repeat (first | apply Kd.R_alloc | apply Kd.R_drewN | apply Kd.R_drew)); exact (Kd.R_mono (Kd.R_far (p := ⟨gb441, 1, none⟩) (Kd.R_far (p := ⟨gb441, 0, none⟩) (Kd.R_types HO435.out BK441.out (by decide)) (fun _ hk => hk.2) (.slice Ao47 t433.length co47)) (fun _ hk => hk.2) (.bool t436)) (fun _ h_ => h_.1)))); (case side4 => exact (Kd.R_reads' HO435.out).2.1); rintro e w65 ⟨rfl, hb⟩; have n0_ := Aside0.mk (Kd.R_below (by (with_reducible repeat (first | apply Kd.R_alloc | apply Kd.R_drewN | apply Kd.R_drew)); exact (Kd.R_mono (Kd.R_far (p := ⟨gb441, 1, none⟩) (Kd.R_far (p := ⟨gb441, 0, none⟩) (Kd.R_types HO_420000.out BK441.out (by decide)) (fun _ hk => hk.2) (.slice Ao47 t433.length co47)) (fun _ hk => hk.2) (.bool t436)) (fun _ h_ => h_.1))) hb); have n1_ := Aside0.mk (Kd.R_below (by (with_reducible repeat (first | apply Kd.R_alloc | apply Kd.R_drewN | apply Kd.R_drew)); exact (Kd.R_mono (Kd.R_far (p := ⟨gb441, 1, none⟩) (Kd.R_far (p := ⟨gb441, 0, none⟩) (Kd.R_types HO_422000.out BK441.out (by decide)) (fun _ hk => hk.2) (.slice Ao47 t433.length co47)) (fun _ hk => hk.2) (.bool t436)) (fun _ h_ => h_.1))) hb); have n2_ := Aside0.mk (Kd.R_below (by (with_reducible repeat (first | apply Kd.R_alloc | apply Kd.R_drewN | apply Kd.R_drew)); exact (Kd.R_mono (Kd.R_far (p := ⟨gb441, 1, none⟩) (Kd.R_far (p := ⟨gb441, 0, none⟩) (Kd.R_types HO425.out BK441.out (by decide)) (fun _ hk => hk.2) (.slice Ao47 t433.length co47)) (fun _ hk => hk.2) (.bool t436)) (fun _ h_ => h_.1))) hb); have n3_ := Aside0.mk (Kd.R_below (by (with_reducible repeat (first | apply Kd.R_alloc | apply Kd.R_drewN | apply Kd.R_drew)); exact (Kd.R_mono (Kd.R_far (p := ⟨gb441, 1, none⟩) (Kd.R_far (p := ⟨gb441, 0, none⟩) (Kd.R_types HO429.out BK441.out (by decide)) (fun _ hk => hk.2) (.slice Ao47 t433.length co47)) (fun _ hk => hk.2) (.bool t436)) (fun _ h_ => h_.1))) hb); have n4_ := Aside0.mk (Kd.R_below (by (with_reducible repeat (first | apply Kd.R_alloc | apply Kd.R_drewN | apply Kd.R_drew)); exact (Kd.R_mono (Kd.R_far (p := ⟨gb441, 1, none⟩) (Kd.R_far (p := ⟨gb441, 0, none⟩) (Kd.R_types HO435.out BK441.out (by decide)) (fun _ hk => hk.2) (.slice Ao47 t433.length co47)) (fun _ hk => hk.2) (.bool t436)) (fun _ h_ => h_.1))) hb); have n5_ := Aside0.mk (Kd.R_below (by (with_reducible repeat (first | apply Kd.R_alloc | apply Kd.R_drewN | apply Kd.R_drew)); exact (Kd.R_mono (Kd.R_far (p := ⟨gb441, 1, none⟩) (Kd.R_far (p := ⟨gb441, 0, none⟩) (Kd.R_types HO439.out BK441.out (by decide)) (fun _ hk => hk.2) (.slice Ao47 t433.length co47)) (fun _ hk => hk.2) (.bool t436)) (fun _ h_ => h_.1))) hb); have n6_ := Aside0.mk (blk_below (g := gb408) (o := .cells #[.slice A0_0 l0_0.length c0_0, .bool a0_1] 37 (0, 0)) (by (with_reducible repeat (first | refine qN ?_ _ | refine qD ?_ | refine qA ?_ _)); refine blk_far ?_ NB408_441.out _; (with_reducible repeat (first | refine qN ?_ _ | refine qD ?_ | refine qA ?_ _)); refine blk_far ?_ NB408_441.out _; (with_reducible repeat (first | refine qN ?_ _ | refine qD ?_ | refine qA ?_ _)); exact BK408.out) hb); have n7_ := Aside0.mk (blk_below (g := gb419) (o := .cells #[.slice Ao33 x420000_2.length co33, .bool x420001_2] 37 (0, 0)) (by (with_reducible repeat (first | refine qN ?_ _ | refine qD ?_ | refine qA ?_ _)); refine blk_far ?_ NB419_441.out _; (with_reducible repeat (first | refine qN ?_ _ | refine qD ?_ | refine qA ?_ _)); refine blk_far ?_ NB419_441.out _; (with_reducible repeat (first | refine qN ?_ _ | refine qD ?_ | refine qA ?_ _)); exact BK419.out) hb); have n8_ := Aside0.mk (blk_below (g := gb421) (o := .cells #[.slice Ao41 x422000_2.length co41, .bool x422001_2] 37 (0, 0)) (by (with_reducible repeat (first | refine qN ?_ _ | refine qD ?_ | refine qA ?_ _)); refine blk_far ?_ NB421_441.out _; (with_reducible repeat (first | refine qN ?_ _ | refine qD ?_ | refine qA ?_ _)); refine blk_far ?_ NB421_441.out _; (with_reducible repeat (first | refine qN ?_ _ | refine qD ?_ | refine qA ?_ _)); exact BK421.out) hb); have n9_ := Aside0.mk (blk_below (g := gb431) (o := .cells #[.slice Ao38 t423.length co38, .bool t426] 37 (0, 0)) (by (with_reducible repeat (first | refine qN ?_ _ | refine qD ?_ | refine qA ?_ _)); refine blk_far ?_ NB431_441.out _; (with_reducible repeat (first | refine qN ?_ _ | refine qD ?_ | refine qA ?_ _)); refine blk_far ?_ NB431_441.out _; (with_reducible repeat (first | refine qN ?_ _ | refine qD ?_ | refine qA ?_ _)); exact BK431.out) hb); have n10_ := Aside0.mk (blk_below (g := gb441) (o := .cells #[.slice Ao47 t433.length co47, .bool t436] 37 (0, 0)) (by (with_reducible repeat (first | refine qN ?_ _ | refine qD ?_ | refine qA ?_ _)); refine blk_put (cs := #[.slice Ao47 t433.length co47, .bool false]) ?_ 1 _ rfl; (with_reducible repeat (first | refine qN ?_ _ | refine qD ?_ | refine qA ?_ _)); refine blk_put (cs := #[.slice none 0 0, .bool false]) ?_ 0 _ rfl; (with_reducible repeat (first | refine qN ?_ _ | refine qD ?_ | refine qA ?_ _)); exact BK441.out) hb); have n11_ := Aside0.mk (below_step (by repeat (first | (with_reducible first | exact HB.out | apply pA | apply pN | apply pD | refine pS ?_ GE408.out | refine pS ?_ GE419.out | refine pS ?_ GE421.out | refine pS ?_ GE431.out | refine pS ?_ GE441.out) | exact HB.out)) hb); clear HO_420000; clear HO_422000; clear HO425; clear HO429; clear HO435; clear HO439; clear BK408; clear BK419; clear BK421; clear BK431; clear BK441; clear HB; have HO_420000 := n0_; have HO_422000 := n1_; have HO425 := n2_; have HO429 := n3_; have HO435 := n4_; have HO439 := n5_; have BK408 := n6_; have BK419 := n7_; have BK421 := n8_; have BK431 := n9_; have BK441 := n10_; have HB := n11_; clear n0_ n1_ n2_ n3_ n4_ n5_ n6_ n7_ n8_ n9_ n10_ n11_; (try clear hb); (try clear hb2); (try clear hk); (try clear hi)))
                        go_meet
                        case rel => exact ⟨_, (!t443), (by first | rfl | (simp; done) | (simp [*]; done)), H', ⟨by have := HJ3.out; have := HK2.out; first | omega | exact Nat.le_refl _⟩, ⟨by (with_reducible repeat (first | apply Kd.R_alloc | apply Kd.R_drewN | apply Kd.R_drew)); exact Kd.R_mono HO_420000.out (fun _ hk => ⟨hk.2.2.2.2, ⟨hk.1, hk.2.2.1⟩⟩)⟩, ⟨by (with_reducible repeat (first | apply Kd.R_alloc | apply Kd.R_drewN | apply Kd.R_drew)); exact Kd.R_mono HO_422000.out (fun _ hk => ⟨hk.2.2.2.2, ⟨hk.1, hk.2.2.1⟩⟩)⟩, ⟨by (with_reducible repeat (first | apply Kd.R_alloc | apply Kd.R_drewN | apply Kd.R_drew)); exact Kd.R_mono HO425.out (fun _ hk => ⟨hk.2.2.2.1, ⟨hk.2.2.2.2, hk.2.1⟩⟩)⟩, ⟨by (with_reducible repeat (first | apply Kd.R_alloc | apply Kd.R_drewN | apply Kd.R_drew)); exact Kd.R_mono HO435.out (fun _ hk => ⟨hk.2.2.2.1, ⟨hk.2.2.2.2, hk.1⟩⟩)⟩, ⟨by (with_reducible repeat (first | refine qN ?_ _ | refine qD ?_ | refine qA ?_ _)); exact BK408.out⟩, ⟨by (with_reducible repeat (first | refine qN ?_ _ | refine qD ?_ | refine qA ?_ _)); exact BK419.out⟩, ⟨by (with_reducible repeat (first | refine qN ?_ _ | refine qD ?_ | refine qA ?_ _)); exact BK421.out⟩, ⟨by (with_reducible repeat (first | refine qN ?_ _ | refine qD ?_ | refine qA ?_ _)); exact BK431.out⟩, ⟨by (with_reducible repeat (first | refine qN ?_ _ | refine qD ?_ | refine qA ?_ _)); exact BK441.out⟩, ⟨by repeat (first | (with_reducible first | exact HB.out | apply pA | apply pN | apply pD | refine pS ?_ GE408.out | refine pS ?_ GE419.out | refine pS ?_ GE421.out | refine pS ?_ GE431.out | refine pS ?_ GE441.out) | exact HB.out)⟩⟩
                      · replace c52 := Bool.eq_false_iff.mpr c52
                        subst c52
                        have H1 : (portreevelaw07_StuffAnew.j2 k2 l1 t409 x10_2 true t423 t426 t433 t436) = some r := by rw [if_neg (show ¬ (false = true) by decide)] at H; exact H
                        clear H
                        have H := H1
                        clear H1
                        have H' := Aside0.mk H
                        clear H
                        obtain ⟨Ao66, co66, eo66⟩ := Kd.R_slice HO429.out
                        subst eo66
                        obtain ⟨Ao67, co67, eo67⟩ := Kd.R_slice HO439.out
                        subst eo67
                        go_wp2_with (first | (go_at_call 13; (with_reducible refine (portreeveref01_Row.calls k2 _ _ t427 _ _ t437 false _ ?side1 ?side2 ?side3 ?side4 A51.out).mono ?_); (case side1 => refine (Kd.R_reads' (e := 5) (base := w.heap.size) (ok := fun k_ => (some k_ ≠ (.slice Ao38 t423.length co38 : Value).ownBlock ∧ (some k_ ≠ (.slice Ao47 t433.length co47 : Value).ownBlock ∧ (some k_ ≠ (.slice Ao67 t437.length co67 : Value).ownBlock ∧ (some k_ ≠ (.slice Ao33 x420000_2.length co33 : Value).ownBlock ∧ some k_ ≠ (.slice Ao41 x422000_2.length co41 : Value).ownBlock))))) (n := t427.length) (c := co66) ?_).2.2; exact (by (with_reducible repeat (first | apply Kd.R_alloc | apply Kd.R_drewN | apply Kd.R_drew)); exact (Kd.R_mono (Kd.R_far (p := ⟨gb441, 1, none⟩) (Kd.R_far (p := ⟨gb441, 0, none⟩) (Kd.R_types HO429.out BK441.out (by decide)) (fun _ hk => hk.2) (.slice Ao47 t433.length co47)) (fun _ hk => hk.2) (.bool t436)) (fun _ h_ => h_.1)))); (case side2 => exact (Kd.R_reads' HO429.out).2.1); (case side3 => refine (Kd.R_reads' (e := 5) (base := w.heap.size) (ok := fun k_ => (some k_ ≠ (.slice Ao38 t423.length co38 : Value).ownBlock ∧ (some k_ ≠ (.slice Ao66 t427.length co66 : Value).ownBlock ∧ (some k_ ≠ (.slice Ao47 t433.length co47 : Value).ownBlock ∧ (some k_ ≠ (.slice Ao33 x420000_2.length co33 : Value).ownBlock ∧ some k_ ≠ (.slice Ao41 x422000_2.length co41 : Value).ownBlock))))) (n := t437.length) (c := co67) ?_).2.2; exact (by (with_reducible repeat (first | apply Kd.R_alloc | apply Kd.R_drewN | apply Kd.R_drew)); exact (Kd.R_mono (Kd.R_far (p := ⟨gb441, 1, none⟩) (Kd.R_far (p := ⟨gb441, 0, none⟩) (Kd.R_types HO439.out BK441.out (by decide)) (fun _ hk => hk.2) (.slice Ao47 t433.length co47)) (fun _ hk => hk.2) (.bool t436)) (fun _ h_ => h_.1)))); (case side4 => exact (Kd.R_reads' HO439.out).2.1); rintro e w' ⟨rfl, ⟨nd, rfl⟩⟩))
                        go_meet
                        case rel => exact ⟨_, (true), (by first | rfl | (simp; done) | (simp [*]; done)), H', ⟨by have := HJ3.out; have := HK2.out; first | omega | exact Nat.le_refl _⟩, ⟨by (with_reducible repeat (first | apply Kd.R_alloc | apply Kd.R_drewN | apply Kd.R_drew)); exact Kd.R_mono (Kd.R_far (p := ⟨gb441, 1, none⟩) (Kd.R_far (p := ⟨gb441, 0, none⟩) (Kd.R_types HO_420000.out BK441.out (by decide)) (fun _ hk => hk.2) (.slice Ao47 t433.length co47)) (fun _ hk => hk.2) (.bool t436)) (fun _ hk => ⟨hk.1.2.2.2.2, ⟨hk.1.1, hk.1.2.2.1⟩⟩)⟩, ⟨by (with_reducible repeat (first | apply Kd.R_alloc | apply Kd.R_drewN | apply Kd.R_drew)); exact Kd.R_mono (Kd.R_far (p := ⟨gb441, 1, none⟩) (Kd.R_far (p := ⟨gb441, 0, none⟩) (Kd.R_types HO_422000.out BK441.out (by decide)) (fun _ hk => hk.2) (.slice Ao47 t433.length co47)) (fun _ hk => hk.2) (.bool t436)) (fun _ hk => ⟨hk.1.2.2.2.2, ⟨hk.1.1, hk.1.2.2.1⟩⟩)⟩, ⟨by (with_reducible repeat (first | apply Kd.R_alloc | apply Kd.R_drewN | apply Kd.R_drew)); exact Kd.R_mono (Kd.R_far (p := ⟨gb441, 1, none⟩) (Kd.R_far (p := ⟨gb441, 0, none⟩) (Kd.R_types HO425.out BK441.out (by decide)) (fun _ hk => hk.2) (.slice Ao47 t433.length co47)) (fun _ hk => hk.2) (.bool t436)) (fun _ hk => ⟨hk.1.2.2.2.1, ⟨hk.1.2.2.2.2, hk.1.2.1⟩⟩)⟩, ⟨by (with_reducible repeat (first | apply Kd.R_alloc | apply Kd.R_drewN | apply Kd.R_drew)); exact Kd.R_mono (Kd.R_far (p := ⟨gb441, 1, none⟩) (Kd.R_far (p := ⟨gb441, 0, none⟩) (Kd.R_types HO435.out BK441.out (by decide)) (fun _ hk => hk.2) (.slice Ao47 t433.length co47)) (fun _ hk => hk.2) (.bool t436)) (fun _ hk => ⟨hk.1.2.2.2.1, ⟨hk.1.2.2.2.2, hk.1.1⟩⟩)⟩, ⟨by (with_reducible repeat (first | refine qN ?_ _ | refine qD ?_ | refine qA ?_ _)); refine blk_far ?_ NB408_441.out _; (with_reducible repeat (first | refine qN ?_ _ | refine qD ?_ | refine qA ?_ _)); refine blk_far ?_ NB408_441.out _; (with_reducible repeat (first | refine qN ?_ _ | refine qD ?_ | refine qA ?_ _)); exact BK408.out⟩, ⟨by (with_reducible repeat (first | refine qN ?_ _ | refine qD ?_ | refine qA ?_ _)); refine blk_far ?_ NB419_441.out _; (with_reducible repeat (first | refine qN ?_ _ | refine qD ?_ | refine qA ?_ _)); refine blk_far ?_ NB419_441.out _; (with_reducible repeat (first | refine qN ?_ _ | refine qD ?_ | refine qA ?_ _)); exact BK419.out⟩, ⟨by (with_reducible repeat (first | refine qN ?_ _ | refine qD ?_ | refine qA ?_ _)); refine blk_far ?_ NB421_441.out _; (with_reducible repeat (first | refine qN ?_ _ | refine qD ?_ | refine qA ?_ _)); refine blk_far ?_ NB421_441.out _; (with_reducible repeat (first | refine qN ?_ _ | refine qD ?_ | refine qA ?_ _)); exact BK421.out⟩, ⟨by (with_reducible repeat (first | refine qN ?_ _ | refine qD ?_ | refine qA ?_ _)); refine blk_far ?_ NB431_441.out _; (with_reducible repeat (first | refine qN ?_ _ | refine qD ?_ | refine qA ?_ _)); refine blk_far ?_ NB431_441.out _; (with_reducible repeat (first | refine qN ?_ _ | refine qD ?_ | refine qA ?_ _)); exact BK431.out⟩, ⟨by (with_reducible repeat (first | refine qN ?_ _ | refine qD ?_ | refine qA ?_ _)); refine blk_put (cs := #[.slice Ao47 t433.length co47, .bool false]) ?_ 1 _ rfl; (with_reducible repeat (first | refine qN ?_ _ | refine qD ?_ | refine qA ?_ _)); refine blk_put (cs := #[.slice none 0 0, .bool false]) ?_ 0 _ rfl; (with_reducible repeat (first | refine qN ?_ _ | refine qD ?_ | refine qA ?_ _)); exact BK441.out⟩, ⟨by repeat (first | (with_reducible first | exact HB.out | apply pA | apply pN | apply pD | refine pS ?_ GE408.out | refine pS ?_ GE419.out | refine pS ?_ GE421.out | refine pS ?_ GE431.out | refine pS ?_ GE441.out) | exact HB.out)⟩⟩
                  case rest =>
                    clear HC32
                    try clear c2
                    try clear p2
                    try clear p4
                    try clear q4
                    try clear hx4
                    try clear c5
                    try clear c6
                    try clear c22
                    try clear p43
                    try clear q43
                    try clear hx43
                    try clear c50
                    try clear c50b0
                    try clear c50b1
                    try clear c50b2
                    try clear c52
                    try clear c56
                    try clear c57
                    try clear c58
                    try clear c59
                    try clear c61
                    try clear c62
                    try clear c63
                    try clear hcz60_0
                    try clear hcz60_1
                    try clear hcz64_0
                    try clear hcz64_1
                    try clear hfz60_0
                    try clear hfz60_1
                    try clear hfz64_0
                    try clear hfz64_1
                    try clear hx432_0
                    try clear p432
                    try clear q432
                    obtain ⟨kq, x78_31, rfl, HA, HJ31, HO_420000, HO_422000, HO_432000, HO_442000, BK408, BK419, BK421, BK431, BK441, HB⟩ := hcut
                    cases kq with
                    | zero => exact absurd HA.out (by simp [portreevelaw07_StuffAnew.j2])
                    | succ kj31 =>
                      have H := HA.out
                      clear HA
                      simp only [portreevelaw07_StuffAnew.j2] at H
                      by_cases c68 : x78_31 = true
                      · subst c68
                        have H1 : (some false) = some r := by rw [if_pos rfl] at H; exact H
                        clear H
                        have H := H1
                        clear H1
                        exact absurd ((Option.some.inj H).trans hlaw_.out) (by decide)
                      · replace c68 := Bool.eq_false_iff.mpr c68
                        subst c68
                        have H1 : (portreevelaw07_StuffAnew.l0 kj31 l1 t409 (wrap64 (x10_2 + 1)) t423 t426 t433 t436) = some r := by rw [if_neg (show ¬ (false = true) by decide)] at H; exact H
                        clear H
                        have H := H1
                        clear H1
                        have H' := Aside0.mk H
                        clear H
                        have hnb69 := NB431_408.out
                        have hnc69 := NB408_431.out
                        have hnb70 := NB431_419.out
                        have hnc70 := NB419_431.out
                        have hnb71 := NB431_421.out
                        have hnc71 := NB421_431.out
                        have hnb72 := NB431_441.out
                        have hnc72 := NB441_431.out
                        have hcz73_0 : wc.cell? ⟨gb431, 0, none⟩ = some (.slice Ao38 t423.length co38) := (blk_cell BK431.out 0).trans rfl
                        have hcz73_1 : wc.cell? ⟨gb431, 1, none⟩ = some (.bool t426) := (blk_cell BK431.out 1).trans rfl
                        have hfz73_0 := blk_frozen BK431.out 0
                        have hfz73_1 := blk_frozen BK431.out 1
                        have hnb74 := NB419_408.out
                        have hnc74 := NB408_419.out
                        have hnb75 := NB419_421.out
                        have hnc75 := NB421_419.out
                        have hnb76 := NB419_441.out
                        have hnc76 := NB441_419.out
                        have hcz77_0 : wc.cell? ⟨gb419, 0, none⟩ = some (.slice Ao33 x420000_2.length co33) := (blk_cell BK419.out 0).trans rfl
                        have hcz77_1 : wc.cell? ⟨gb419, 1, none⟩ = some (.bool x420001_2) := (blk_cell BK419.out 1).trans rfl
                        have hfz77_0 := blk_frozen BK419.out 0
                        have hfz77_1 := blk_frozen BK419.out 1
                        have hnb78 := NB441_408.out
                        have hnc78 := NB408_441.out
                        have hnb79 := NB441_421.out
                        have hnc79 := NB421_441.out
                        have hcz80_0 : wc.cell? ⟨gb441, 0, none⟩ = some (.slice Ao47 t433.length co47) := (blk_cell BK441.out 0).trans rfl
                        have hcz80_1 : wc.cell? ⟨gb441, 1, none⟩ = some (.bool t436) := (blk_cell BK441.out 1).trans rfl
                        have hfz80_0 := blk_frozen BK441.out 0
                        have hfz80_1 := blk_frozen BK441.out 1
                        have hnb81 := NB421_408.out
                        have hnc81 := NB408_421.out
                        have hcz82_0 : wc.cell? ⟨gb421, 0, none⟩ = some (.slice Ao41 x422000_2.length co41) := (blk_cell BK421.out 0).trans rfl
                        have hcz82_1 : wc.cell? ⟨gb421, 1, none⟩ = some (.bool x422001_2) := (blk_cell BK421.out 1).trans rfl
                        have hfz82_0 := blk_frozen BK421.out 0
                        have hfz82_1 := blk_frozen BK421.out 1
                        go_wp2
                        go_roundg kj31
                        case measure => have := HJ3.out; have := HK2.out; have := HJ31.out; omega
                        case rel => exact ⟨(wrap64 (x10_2 + 1)), (t423), (t426), (t433), (t436), (.slice Ao38 t423.length co38), (.slice Ao47 t433.length co47), (by first | rfl | (simp; done) | (simp [*]; done)), H', ⟨by have := HJ3.out; have := HK2.out; have := HJ31.out; omega⟩, ⟨by (with_reducible repeat (first | apply Kd.R_alloc | apply Kd.R_drewN | apply Kd.R_drew)); exact Kd.R_mono (Kd.R_far (p := ⟨gb421, 1, none⟩) (Kd.R_far (p := ⟨gb421, 0, none⟩) (Kd.R_far (p := ⟨gb419, 1, none⟩) (Kd.R_far (p := ⟨gb419, 0, none⟩) (Kd.R_types (Kd.R_types HO_432000.out BK419.out (by decide)) BK421.out (by decide)) (fun _ hk => hk.1.2) (.slice Ao38 t423.length co38)) (fun _ hk => hk.1.2) (.bool t426)) (fun _ hk => hk.2) (.slice Ao47 t433.length co47)) (fun _ hk => hk.2) (.bool t436)) (fun _ hk => hk.1.1.2.2)⟩, ⟨by (with_reducible repeat (first | apply Kd.R_alloc | apply Kd.R_drewN | apply Kd.R_drew)); exact Kd.R_mono (Kd.R_far (p := ⟨gb421, 1, none⟩) (Kd.R_far (p := ⟨gb421, 0, none⟩) (Kd.R_far (p := ⟨gb419, 1, none⟩) (Kd.R_far (p := ⟨gb419, 0, none⟩) (Kd.R_types (Kd.R_types HO_442000.out BK419.out (by decide)) BK421.out (by decide)) (fun _ hk => hk.1.2) (.slice Ao38 t423.length co38)) (fun _ hk => hk.1.2) (.bool t426)) (fun _ hk => hk.2) (.slice Ao47 t433.length co47)) (fun _ hk => hk.2) (.bool t436)) (fun _ hk => hk.1.1.2.2)⟩, ⟨by (with_reducible repeat (first | refine qN ?_ _ | refine qD ?_ | refine qA ?_ _)); refine blk_far ?_ NB408_421.out _; (with_reducible repeat (first | refine qN ?_ _ | refine qD ?_ | refine qA ?_ _)); refine blk_far ?_ NB408_421.out _; (with_reducible repeat (first | refine qN ?_ _ | refine qD ?_ | refine qA ?_ _)); refine blk_far ?_ NB408_419.out _; (with_reducible repeat (first | refine qN ?_ _ | refine qD ?_ | refine qA ?_ _)); refine blk_far ?_ NB408_419.out _; (with_reducible repeat (first | refine qN ?_ _ | refine qD ?_ | refine qA ?_ _)); exact BK408.out⟩, ⟨by (with_reducible repeat (first | refine qN ?_ _ | refine qD ?_ | refine qA ?_ _)); refine blk_far ?_ NB419_421.out _; (with_reducible repeat (first | refine qN ?_ _ | refine qD ?_ | refine qA ?_ _)); refine blk_far ?_ NB419_421.out _; (with_reducible repeat (first | refine qN ?_ _ | refine qD ?_ | refine qA ?_ _)); refine blk_put (cs := #[.slice Ao38 t423.length co38, .bool x420001_2]) ?_ 1 _ rfl; (with_reducible repeat (first | refine qN ?_ _ | refine qD ?_ | refine qA ?_ _)); refine blk_put (cs := #[.slice Ao33 x420000_2.length co33, .bool x420001_2]) ?_ 0 _ rfl; (with_reducible repeat (first | refine qN ?_ _ | refine qD ?_ | refine qA ?_ _)); exact BK419.out⟩, ⟨by (with_reducible repeat (first | refine qN ?_ _ | refine qD ?_ | refine qA ?_ _)); refine blk_put (cs := #[.slice Ao47 t433.length co47, .bool x422001_2]) ?_ 1 _ rfl; (with_reducible repeat (first | refine qN ?_ _ | refine qD ?_ | refine qA ?_ _)); refine blk_put (cs := #[.slice Ao41 x422000_2.length co41, .bool x422001_2]) ?_ 0 _ rfl; (with_reducible repeat (first | refine qN ?_ _ | refine qD ?_ | refine qA ?_ _)); refine blk_far ?_ NB421_419.out _; (with_reducible repeat (first | refine qN ?_ _ | refine qD ?_ | refine qA ?_ _)); refine blk_far ?_ NB421_419.out _; (with_reducible repeat (first | refine qN ?_ _ | refine qD ?_ | refine qA ?_ _)); exact BK421.out⟩, ⟨by repeat (first | (with_reducible first | exact HB.out | apply pA | apply pN | apply pD | refine pS ?_ GE408.out | refine pS ?_ GE419.out | refine pS ?_ GE421.out | refine pS ?_ GE431.out | refine pS ?_ GE441.out) | exact HB.out)⟩⟩
                · rw [if_neg c29] at H
                  exact absurd H (by simp)
              · rw [if_neg c28] at H
                have c28b0 : decide (x10_2 < (l1.length : Int)) = false := decide_eq_false c28
                clear c28
                clear hlaw_
                obtain rfl := Option.some.inj H
                go_wp2
                go_ret
                exact ⟨by first | rfl | (simp [errW_none, errW_some] <;> rfl) | (simp [*, errW_none, errW_some] <;> rfl), by repeat (first | (with_reducible first | exact HB.out | apply pA | apply pN | apply pD | refine pS ?_ GE408.out | refine pS ?_ GE419.out | refine pS ?_ GE421.out) | exact HB.out)⟩
        · replace c16 := Bool.eq_false_iff.mpr c16
          subst c16
          have H1 : (some false) = some r := by rw [if_neg (show ¬ (false = true) by decide)] at H; exact H
          clear H
          have H := H1
          clear H1
          exact absurd ((Option.some.inj H).trans hlaw_.out) (by decide)

end Go.Proofs.Ytdmhamnnadegnaa.Q

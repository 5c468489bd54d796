-- written by this session's own program (wip/tools/myprint.py), over the kit's print
import Derived.Test.YtdmhamnnadegnaaQx0
import Derived.Test.YtdmhamnnadegnaaQx4
import Derived.Test.YtdmhamnnadegnaaQx6
import Derived.Test.YtdmhamnnadegnaaQx8
namespace Go.Proofs.Ytdmhamnnadegnaa.Q
open Go.RowKit Go.Proofs.YtdmhamnnadegnaaW.PrintWords Go.Proofs.YtdmhamnnadegnaaW.PrintLast Go.Proofs.YtdmhamnnadegnaaW.PrintMore
open Go.Proofs.YtdmhamnnadegnaaV
attribute [local go_sem] max2_int min2_int max_two min_two max_three min_three max_four min_four   -- for this text's walks alone
set_option linter.unusedVariables false
set_option linter.unusedSimpArgs false

/-! ### portreevelaw07_StuffRight: function 9 -/
def portreevelaw07_StuffRight.j0 : Nat → Int → Bool → Bool → Bool → List Int → Bool → List Int → Bool → Option (Bool)
  | 0, _, _, _, _, _, _, _, _ => none
  | k + 1, x1, x5, x8, x32, x445000, x445001, x456000, x456001 => if x32 = true then (some false) else (if x445001 = true then (if x5 = true then (if x8 = true then (some false) else (some (x456001 == (x1 != 126)))) else (some false)) else (if x5 = true then (if x1 = 126 then (some true) else (if x8 = true then (some false) else (if x456001 = true then (if (x445000.length : Int) = 1508 then (some true) else (some ((x456000.length : Int) == (wrap64 ((x445000.length : Int) + 1))))) else (some ((x456000.length : Int) == (wrap64 ((x445000.length : Int) + 1))))))) else (some false)))
def portreevelaw07_StuffRight.f (k : Nat) (l0_0 : List Int) (a0_1 : Bool) (a1 : Int) : Option (Bool) := (portreevelaw07_shown.f k).bind fun t445 => ((portreeveref07_Right.f k l0_0 a0_1).bind fun t446 => (if t446 = true then ((stuff_Feed.f k l0_0 a0_1 a1).bind fun bt447 => ((portreeveref07_Right.f k bt447.1 bt447.2.1).bind fun t456 => (if t456 = true then (if bt447.2.2.2 = true then (portreevelaw07_StuffRight.j0 k a1 t445 bt447.2.2.2 false l0_0 a0_1 bt447.1 bt447.2.1) else (portreevelaw07_StuffRight.j0 k a1 t445 bt447.2.2.2 (decide ((bt447.2.2.1.length : Int) > 0)) l0_0 a0_1 bt447.1 bt447.2.1)) else (portreevelaw07_StuffRight.j0 k a1 t445 bt447.2.2.2 true l0_0 a0_1 bt447.1 bt447.2.1)))) else (some t445)))
theorem portreevelaw07_StuffRight.mono_l : ∀ k, (∀ y0 y1 y2 y3 y4 y5 y6 y7, LeO (portreevelaw07_StuffRight.j0 k y0 y1 y2 y3 y4 y5 y6 y7) (portreevelaw07_StuffRight.j0 (k + 1) y0 y1 y2 y3 y4 y5 y6 y7))
  | 0 => fun _ _ _ _ _ _ _ _ r h => by simp [portreevelaw07_StuffRight.j0] at h
  | k + 1 => by
    have ih0 := portreevelaw07_StuffRight.mono_l k
    · intro y0 y1 y2 y3 y4 y5 y6 y7
      unfold portreevelaw07_StuffRight.j0
      repeat' first
      | (with_reducible exact ih0 _ _ _ _ _ _ _ _)
      | (with_reducible exact portreevelaw07_shown.mono _)
      | (with_reducible exact portreeveref07_Right.mono _ _ _)
      | (with_reducible exact stuff_Feed.mono _ _ _ _)
      | (with_reducible exact LeO.refl _)
      | (with_reducible exact LeO.none _)
      | (with_reducible refine LeO.ite ?_ ?_)
      | (with_reducible refine LeO.bind ?_ (fun _ => ?_))
      | exact ih0 _ _ _ _ _ _ _ _
      | exact portreevelaw07_shown.mono _
      | exact portreeveref07_Right.mono _ _ _
      | exact stuff_Feed.mono _ _ _ _
      | exact LeO.none _
      | refine LeO.ite ?_ ?_
      | refine LeO.bind ?_ (fun _ => ?_)
theorem portreevelaw07_StuffRight.mono : ∀ a0 a1 a2 k, LeO (portreevelaw07_StuffRight.f k a0 a1 a2) (portreevelaw07_StuffRight.f (k + 1) a0 a1 a2) := by
  intro a0 a1 a2 k
  have ih0 := portreevelaw07_StuffRight.mono_l k
  unfold portreevelaw07_StuffRight.f
  repeat' first
      | (with_reducible exact ih0 _ _ _ _ _ _ _ _)
      | (with_reducible exact portreevelaw07_shown.mono _)
      | (with_reducible exact portreeveref07_Right.mono _ _ _)
      | (with_reducible exact stuff_Feed.mono _ _ _ _)
      | (with_reducible exact LeO.refl _)
      | (with_reducible exact LeO.none _)
      | (with_reducible refine LeO.ite ?_ ?_)
      | (with_reducible refine LeO.bind ?_ (fun _ => ?_))
      | exact ih0 _ _ _ _ _ _ _ _
      | exact portreevelaw07_shown.mono _
      | exact portreeveref07_Right.mono _ _ _
      | exact stuff_Feed.mono _ _ _ _
      | exact LeO.none _
      | refine LeO.ite ?_ ?_
      | refine LeO.bind ?_ (fun _ => ?_)
set_option maxHeartbeats 8000000 in
set_option maxRecDepth 100000 in
theorem portreevelaw07_StuffRight.calls (k : Nat) (A0_0 : Option Addr) (c0_0 : Nat) (l0_0 : List Int) (a0_1 : Bool) (a1 : Int) (r : Bool) (w : World) (hlaw_ : Aside0 (r = true)) (hr0_0 : Kd.C (Kd.int .u8) w A0_0 l0_0.length l0_0) (hc0_0 : l0_0.length ≤ c0_0) (h : portreevelaw07_StuffRight.f k l0_0 a0_1 a1 = some r) :
    Calls Try.prog 9 #[.agg #[.slice A0_0 l0_0.length c0_0, .bool a0_1], .int .u8 a1] w fun e w' => e = .returned (.bool r) ∧ Below w.heap.size w w' := by
  have hu37 := Try.underlying37
  have HR0_0 := Aside0.mk hr0_0
  have HC0_0 := Aside0.mk hc0_0
  clear hr0_0 hc0_0
  have HB := Aside0.mk (Below.refl w.heap.size w)
  have H : ((portreevelaw07_shown.f k).bind fun t445 => ((portreeveref07_Right.f k l0_0 a0_1).bind fun t446 => (if t446 = true then ((stuff_Feed.f k l0_0 a0_1 a1).bind fun bt447 => ((portreeveref07_Right.f k bt447.1 bt447.2.1).bind fun t456 => (if t456 = true then (if bt447.2.2.2 = true then (portreevelaw07_StuffRight.j0 k a1 t445 bt447.2.2.2 false l0_0 a0_1 bt447.1 bt447.2.1) else (portreevelaw07_StuffRight.j0 k a1 t445 bt447.2.2.2 (decide ((bt447.2.2.1.length : Int) > 0)) l0_0 a0_1 bt447.1 bt447.2.1)) else (portreevelaw07_StuffRight.j0 k a1 t445 bt447.2.2.2 true l0_0 a0_1 bt447.1 bt447.2.1)))) else (some t445)))) = some r := h
  clear h
  replace H := Option.bind_eq_some_iff.mp H
  obtain ⟨t445, A30, H⟩ := H
  replace H : ((portreeveref07_Right.f k l0_0 a0_1).bind fun t446 => (if t446 = true then ((stuff_Feed.f k l0_0 a0_1 a1).bind fun bt447 => ((portreeveref07_Right.f k bt447.1 bt447.2.1).bind fun t456 => (if t456 = true then (if bt447.2.2.2 = true then (portreevelaw07_StuffRight.j0 k a1 t445 bt447.2.2.2 false l0_0 a0_1 bt447.1 bt447.2.1) else (portreevelaw07_StuffRight.j0 k a1 t445 bt447.2.2.2 (decide ((bt447.2.2.1.length : Int) > 0)) l0_0 a0_1 bt447.1 bt447.2.1)) else (portreevelaw07_StuffRight.j0 k a1 t445 bt447.2.2.2 true l0_0 a0_1 bt447.1 bt447.2.1)))) else (some t445))) = some r := H
  have A3 := Aside0.mk A30
  clear A30
  replace H := Option.bind_eq_some_iff.mp H
  obtain ⟨t446, A40, H⟩ := H
  replace H : (if t446 = true then ((stuff_Feed.f k l0_0 a0_1 a1).bind fun bt447 => ((portreeveref07_Right.f k bt447.1 bt447.2.1).bind fun t456 => (if t456 = true then (if bt447.2.2.2 = true then (portreevelaw07_StuffRight.j0 k a1 t445 bt447.2.2.2 false l0_0 a0_1 bt447.1 bt447.2.1) else (portreevelaw07_StuffRight.j0 k a1 t445 bt447.2.2.2 (decide ((bt447.2.2.1.length : Int) > 0)) l0_0 a0_1 bt447.1 bt447.2.1)) else (portreevelaw07_StuffRight.j0 k a1 t445 bt447.2.2.2 true l0_0 a0_1 bt447.1 bt447.2.1)))) else (some t445)) = some r := H
  have A4 := Aside0.mk A40
  clear A40
  by_cases c5 : t446 = true
  · subst c5
    have H1 : ((stuff_Feed.f k l0_0 a0_1 a1).bind fun bt447 => ((portreeveref07_Right.f k bt447.1 bt447.2.1).bind fun t456 => (if t456 = true then (if bt447.2.2.2 = true then (portreevelaw07_StuffRight.j0 k a1 t445 bt447.2.2.2 false l0_0 a0_1 bt447.1 bt447.2.1) else (portreevelaw07_StuffRight.j0 k a1 t445 bt447.2.2.2 (decide ((bt447.2.2.1.length : Int) > 0)) l0_0 a0_1 bt447.1 bt447.2.1)) else (portreevelaw07_StuffRight.j0 k a1 t445 bt447.2.2.2 true l0_0 a0_1 bt447.1 bt447.2.1)))) = some r := by rw [if_pos rfl] at H; exact H
    clear H
    have H := H1
    clear H1
    replace H := Option.bind_eq_some_iff.mp H
    obtain ⟨⟨t447, t450, t451, t454⟩, A60, H⟩ := H
    replace H : ((portreeveref07_Right.f k t447 t450).bind fun t456 => (if t456 = true then (if t454 = true then (portreevelaw07_StuffRight.j0 k a1 t445 t454 false l0_0 a0_1 t447 t450) else (portreevelaw07_StuffRight.j0 k a1 t445 t454 (decide ((t451.length : Int) > 0)) l0_0 a0_1 t447 t450)) else (portreevelaw07_StuffRight.j0 k a1 t445 t454 true l0_0 a0_1 t447 t450))) = some r := H
    have A6 := Aside0.mk A60
    clear A60
    have HC7 := Aside0.mk H
    clear H
    go_enter Try.func9, Try.ntmps9
    go_upto_region 5 with (first | ((with_reducible refine gate_dst (N := 2) rfl ?_); (try (refine gate_guard (by rfl) ?_; dsimp only)); refine box_event ?hg (N := 2) ?hd (cs := #[.slice A0_0 l0_0.length c0_0, .bool a0_1]) (t := 37) ?hr ?_; (case hd => rfl); (case hg => rfl); (case hr => first | (go_simp; done) | (go_simp; rfl)); intro gb444 hg w8 hbox hb; have n0_ := Aside0.mk (below_step (by repeat (first | (with_reducible first | exact HB.out | apply pA | apply pN | apply pD) | exact HB.out)) hb); have n1_ := Aside0.mk (hbox); have n2_ := Aside0.mk ((by rw [hg]; exact (below_size (by repeat (first | (with_reducible first | exact HB.out | apply pA | apply pN | apply pD) | exact HB.out))) : w.heap.size ≤ gb444)); have n3_ := Aside0.mk ((by rw [hg]; exact (below_size (by repeat (first | (with_reducible first | exact HB.out | apply pA | apply pN | apply pD) | exact HB.out))) : w.heap.size ≤ gb444)); clear HB; have HB := n0_; have BK444 := n1_; have GW444 := n2_; have GE444 := n3_; clear n0_ n1_ n2_ n3_; clear hb hbox hg) | ((with_reducible refine gate_callee (f := 10) rfl ?_); refine goesL_ (some 9) rfl rfl Try.func10 (by kernel_rfl) rfl #[] rfl (by (try simp only [List.map_toArray, List.map_cons, List.map_nil]); first | done | rfl | (simp only [List.length_drop, List.length_take]; rfl)) ?_; (with_reducible refine (portreevelaw07_shown.calls k  t445 _ A3.out).mono ?_); rintro e w9 ⟨rfl, hb⟩; refine ⟨_, rfl, ?_⟩; have n0_ := Aside0.mk (blk_below (g := gb444) (o := .cells #[.slice A0_0 l0_0.length c0_0, .bool a0_1] 37 (0, 0)) (by (with_reducible repeat (first | refine qN ?_ _ | refine qD ?_ | refine qA ?_ _)); exact BK444.out) hb); have n1_ := Aside0.mk (below_step (by repeat (first | (with_reducible first | exact HB.out | apply pA | apply pN | apply pD | refine pS ?_ GE444.out) | exact HB.out)) hb); clear BK444; clear HB; have BK444 := n0_; have HB := n1_; clear n0_ n1_; (try clear hb); (try clear hb2); (try clear hk); (try clear hi); have hcz10_0 : w9.cell? ⟨gb444, 0, none⟩ = some (.slice A0_0 l0_0.length c0_0) := (blk_cell BK444.out 0).trans rfl; have hcz10_1 : w9.cell? ⟨gb444, 1, none⟩ = some (.bool a0_1) := (blk_cell BK444.out 1).trans rfl; have hfz10_0 := blk_frozen BK444.out 0; have hfz10_1 := blk_frozen BK444.out 1) | ((with_reducible refine gate_callee (f := 21) rfl ?_); refine goesL_ (some 11) rfl rfl Try.func21 (by kernel_rfl) rfl #[.agg #[.slice A0_0 l0_0.length c0_0, .bool a0_1]] rfl (by (try simp only [List.map_toArray, List.map_cons, List.map_nil]); first | done | rfl | (simp only [List.length_drop, List.length_take]; rfl)) ?_; (with_reducible refine (portreeveref07_Right.calls k _ _ l0_0 a0_1 true _ ?side1 ?side2 A4.out).mono ?_); (case side1 => repeat (first | exact (Kd.C_below HR0_0.out HB.out) | (with_reducible refine Kd.C_alloc ?_ _) | (with_reducible refine Kd.C_drewN ?_ _) | (with_reducible refine Kd.C_drew ?_))); (case side2 => exact HC0_0.out); rintro e w11 ⟨rfl, hb⟩; refine ⟨_, rfl, ?_⟩; have n0_ := Aside0.mk (blk_below (g := gb444) (o := .cells #[.slice A0_0 l0_0.length c0_0, .bool a0_1] 37 (0, 0)) (by (with_reducible repeat (first | refine qN ?_ _ | refine qD ?_ | refine qA ?_ _)); exact BK444.out) hb); have n1_ := Aside0.mk (below_step (by repeat (first | (with_reducible first | exact HB.out | apply pA | apply pN | apply pD | refine pS ?_ GE444.out) | exact HB.out)) hb); clear BK444; clear HB; have BK444 := n0_; have HB := n1_; clear n0_ n1_; (try clear hb); (try clear hb2); (try clear hk); (try clear hi); have hcz12_0 : w11.cell? ⟨gb444, 0, none⟩ = some (.slice A0_0 l0_0.length c0_0) := (blk_cell BK444.out 0).trans rfl; have hcz12_1 : w11.cell? ⟨gb444, 1, none⟩ = some (.bool a0_1) := (blk_cell BK444.out 1).trans rfl; have hfz12_0 := blk_frozen BK444.out 0; have hfz12_1 := blk_frozen BK444.out 1) | ((with_reducible refine gate_callee (f := 22) rfl ?_); refine goesL_ (some 17) rfl rfl Try.func22 (by kernel_rfl) rfl #[.agg #[.slice A0_0 l0_0.length c0_0, .bool a0_1], .int .u8 a1] rfl (by (try simp only [List.map_toArray, List.map_cons, List.map_nil]); first | done | rfl | (simp only [List.length_drop, List.length_take]; rfl)) ?_; (with_reducible refine (stuff_Feed.calls k _ _ l0_0 a0_1 a1 t447 t450 t451 t454 _ ?side1 ?side2 A6.out).mono ?_); (case side1 => repeat (first | exact (Kd.C_below HR0_0.out HB.out) | (with_reducible refine Kd.C_alloc ?_ _) | (with_reducible refine Kd.C_drewN ?_ _) | (with_reducible refine Kd.C_drew ?_))); (case side2 => exact HC0_0.out); rintro e w13 ⟨v448, v452, rfl, ho0, ho1, hb⟩; refine ⟨_, rfl, ?_⟩; have n0_ := Aside0.mk (Kd.R_lower ho0 (below_size (by repeat (first | (with_reducible first | exact HB.out | apply pA | apply pN | apply pD | refine pS ?_ GE444.out) | exact HB.out)))); have n1_ := Aside0.mk (Kd.R_lower ho1 (below_size (by repeat (first | (with_reducible first | exact HB.out | apply pA | apply pN | apply pD | refine pS ?_ GE444.out) | exact HB.out)))); have n2_ := Aside0.mk (blk_below (g := gb444) (o := .cells #[.slice A0_0 l0_0.length c0_0, .bool a0_1] 37 (0, 0)) (by (with_reducible repeat (first | refine qN ?_ _ | refine qD ?_ | refine qA ?_ _)); exact BK444.out) hb); have n3_ := Aside0.mk (below_step (by repeat (first | (with_reducible first | exact HB.out | apply pA | apply pN | apply pD | refine pS ?_ GE444.out) | exact HB.out)) hb); clear BK444; clear HB; have HO449 := n0_; have HO453 := n1_; have BK444 := n2_; have HB := n3_; clear n0_ n1_ n2_ n3_; (try clear hb); (try clear hb2); (try clear hk); (try clear hi); (try clear ho0); (try clear ho1)) | ((with_reducible refine gate_dst (N := 6) rfl ?_); (try (refine gate_guard (by rfl) ?_; dsimp only)); refine box_event ?hg (N := 6) ?hd (cs := #[.slice none 0 0, .bool false]) (t := 37) ?hr ?_; (case hd => rfl); (case hg => rfl); (case hr => first | (go_simp; done) | (go_simp; rfl)); intro gb455 hg w14 hbox hb; have n0_ := Aside0.mk (Kd.R_below (by (with_reducible repeat (first | apply Kd.R_alloc | apply Kd.R_drewN | apply Kd.R_drew)); exact HO449.out) hb); have n1_ := Aside0.mk (Kd.R_below (by (with_reducible repeat (first | apply Kd.R_alloc | apply Kd.R_drewN | apply Kd.R_drew)); exact HO453.out) hb); have n2_ := Aside0.mk (blk_below (g := gb444) (o := .cells #[.slice A0_0 l0_0.length c0_0, .bool a0_1] 37 (0, 0)) (by (with_reducible repeat (first | refine qN ?_ _ | refine qD ?_ | refine qA ?_ _)); exact BK444.out) hb); have n3_ := Aside0.mk (below_step (by repeat (first | (with_reducible first | exact HB.out | apply pA | apply pN | apply pD | refine pS ?_ GE444.out) | exact HB.out)) hb); have n4_ := Aside0.mk (hbox); have n5_ := Aside0.mk ((by rw [hg]; exact (below_size (by repeat (first | (with_reducible first | exact HB.out | apply pA | apply pN | apply pD | refine pS ?_ GE444.out) | exact HB.out))) : w.heap.size ≤ gb455)); have n6_ := Aside0.mk ((by rw [hg]; exact (below_size (by repeat (first | (with_reducible first | exact HB.out | apply pA | apply pN | apply pD | refine pS ?_ GE444.out) | exact HB.out))) : w.heap.size ≤ gb455)); have n7_ := Aside0.mk ((by rw [hg]; exact Nat.ne_of_lt (blk_lt (g := gb444) (o := .cells #[.slice A0_0 l0_0.length c0_0, .bool a0_1] 37 (0, 0)) (by (with_reducible repeat (first | refine qN ?_ _ | refine qD ?_ | refine qA ?_ _)); exact BK444.out)) : gb444 ≠ gb455)); have n8_ := Aside0.mk ((by rw [hg]; exact Nat.ne_of_gt (blk_lt (g := gb444) (o := .cells #[.slice A0_0 l0_0.length c0_0, .bool a0_1] 37 (0, 0)) (by (with_reducible repeat (first | refine qN ?_ _ | refine qD ?_ | refine qA ?_ _)); exact BK444.out)) : gb455 ≠ gb444)); clear HO449; clear HO453; clear BK444; clear HB; have HO449 := n0_; have HO453 := n1_; have BK444 := n2_; have HB := n3_; have BK455 := n4_; have GW455 := n5_; have GE455 := n6_; have NB444_455 := n7_; have NB455_444 := n8_; clear n0_ n1_ n2_ n3_ n4_ n5_ n6_ n7_ n8_; clear hb hbox hg; obtain ⟨Ao15, co15, eo15⟩ := Kd.R_slice HO449.out; subst eo15; have hnb16 := NB455_444.out; have hnc16 := NB444_455.out; have hcz17_0 : w14.cell? ⟨gb455, 0, none⟩ = some (.slice none 0 0) := (blk_cell BK455.out 0).trans rfl; have hcz17_1 : w14.cell? ⟨gb455, 1, none⟩ = some (.bool false) := (blk_cell BK455.out 1).trans rfl; have hfz17_0 := blk_frozen BK455.out 0; have hfz17_1 := blk_frozen BK455.out 1))
    (try simp only [Act.put, List.setIfInBounds_toArray, List.set_cons_zero, List.set_cons_succ])
    go_cut [32] (fun v32 wc => ∃ (kq : Nat) (x32_6 : Bool), v32 = .bool x32_6 ∧ Aside0 (portreevelaw07_StuffRight.j0 kq a1 t445 t454 x32_6 l0_0 a0_1 t447 t450 = some r) ∧ Aside0 (kq ≤ k) ∧ Aside0 (Kd.R (Kd.int .u8) 5 wc w.heap.size (fun _ => True) (.slice Ao15 t447.length co15) t447) ∧ Aside0 (wc.heap[gb444]? = some (.cells #[(.slice A0_0 l0_0.length c0_0), .bool a0_1] 37 (0, 0))) ∧ Aside0 (wc.heap[gb455]? = some (.cells #[(.slice Ao15 t447.length co15), .bool t450] 37 (0, 0))) ∧ Aside0 (Below w.heap.size w wc))
    case first =>
      have H := HC7.out
      clear HC7
      replace H := Option.bind_eq_some_iff.mp H
      obtain ⟨t456, A180, H⟩ := H
      replace H : (if t456 = true then (if t454 = true then (portreevelaw07_StuffRight.j0 k a1 t445 t454 false l0_0 a0_1 t447 t450) else (portreevelaw07_StuffRight.j0 k a1 t445 t454 (decide ((t451.length : Int) > 0)) l0_0 a0_1 t447 t450)) else (portreevelaw07_StuffRight.j0 k a1 t445 t454 true l0_0 a0_1 t447 t450)) = some r := H
      have A18 := Aside0.mk A180
      clear A180
      by_cases c19 : t456 = true
      · subst c19
        have H1 : (if t454 = true then (portreevelaw07_StuffRight.j0 k a1 t445 t454 false l0_0 a0_1 t447 t450) else (portreevelaw07_StuffRight.j0 k a1 t445 t454 (decide ((t451.length : Int) > 0)) l0_0 a0_1 t447 t450)) = some r := by rw [if_pos rfl] at H; exact H
        clear H
        have H := H1
        clear H1
        by_cases c20 : t454 = true
        · subst c20
          have H1 : (portreevelaw07_StuffRight.j0 k a1 t445 true false l0_0 a0_1 t447 t450) = some r := by rw [if_pos rfl] at H; exact H
          clear H
          have H := H1
          clear H1
          have H' := Aside0.mk H
          clear H
          have hnb21 := NB455_444.out
          have hnc21 := NB444_455.out
          have hcz22_0 : w14.cell? ⟨gb455, 0, none⟩ = some (.slice none 0 0) := (blk_cell BK455.out 0).trans rfl
          have hcz22_1 : w14.cell? ⟨gb455, 1, none⟩ = some (.bool false) := (blk_cell BK455.out 1).trans rfl
          have hfz22_0 := blk_frozen BK455.out 0
          have hfz22_1 := blk_frozen BK455.out 1
          go_wp2_with (first | ((with_reducible refine gate_callee (f := 21) rfl ?_); refine goesL_ (some 22) rfl rfl Try.func21 (by kernel_rfl) rfl #[.agg #[.slice Ao15 t447.length co15, .bool t450]] rfl (by (try simp only [List.map_toArray, List.map_cons, List.map_nil]); first | done | rfl | (simp only [List.length_drop, List.length_take]; rfl)) ?_; (with_reducible refine (portreeveref07_Right.calls k _ _ t447 t450 true _ ?side1 ?side2 A18.out).mono ?_); (case side1 => refine (Kd.R_reads' (e := 5) (base := w.heap.size) (ok := fun k_ => some k_ ≠ (v452 : Value).ownBlock) (n := t447.length) (c := co15) ?_).2.2; exact (by (with_reducible repeat (first | apply Kd.R_alloc | apply Kd.R_drewN | apply Kd.R_drew)); exact (Kd.R_mono (Kd.R_far (p := ⟨gb455, 1, none⟩) (Kd.R_far (p := ⟨gb455, 0, none⟩) (Kd.R_types HO449.out BK455.out (by decide)) (fun _ hk => hk.2) (.slice Ao15 t447.length co15)) (fun _ hk => hk.2) (.bool t450)) (fun _ h_ => h_.1)))); (case side2 => exact (Kd.R_reads' HO449.out).2.1); rintro e w23 ⟨rfl, hb⟩; refine ⟨_, rfl, ?_⟩; have n0_ := Aside0.mk (Kd.R_below (by (with_reducible repeat (first | apply Kd.R_alloc | apply Kd.R_drewN | apply Kd.R_drew)); exact (Kd.R_mono (Kd.R_far (p := ⟨gb455, 1, none⟩) (Kd.R_far (p := ⟨gb455, 0, none⟩) (Kd.R_types HO449.out BK455.out (by decide)) (fun _ hk => hk.2) (.slice Ao15 t447.length co15)) (fun _ hk => hk.2) (.bool t450)) (fun _ h_ => h_.1))) hb); have n1_ := Aside0.mk (Kd.R_below (by (with_reducible repeat (first | apply Kd.R_alloc | apply Kd.R_drewN | apply Kd.R_drew)); exact (Kd.R_mono (Kd.R_far (p := ⟨gb455, 1, none⟩) (Kd.R_far (p := ⟨gb455, 0, none⟩) (Kd.R_types HO453.out BK455.out (by decide)) (fun _ hk => hk.2) (.slice Ao15 t447.length co15)) (fun _ hk => hk.2) (.bool t450)) (fun _ h_ => h_.1))) hb); have n2_ := Aside0.mk (blk_below (g := gb444) (o := .cells #[.slice A0_0 l0_0.length c0_0, .bool a0_1] 37 (0, 0)) (by (with_reducible repeat (first | refine qN ?_ _ | refine qD ?_ | refine qA ?_ _)); refine blk_far ?_ NB444_455.out _; (with_reducible repeat (first | refine qN ?_ _ | refine qD ?_ | refine qA ?_ _)); refine blk_far ?_ NB444_455.out _; (with_reducible repeat (first | refine qN ?_ _ | refine qD ?_ | refine qA ?_ _)); exact BK444.out) hb); have n3_ := Aside0.mk (blk_below (g := gb455) (o := .cells #[.slice Ao15 t447.length co15, .bool t450] 37 (0, 0)) (by (with_reducible repeat (first | refine qN ?_ _ | refine qD ?_ | refine qA ?_ _)); refine blk_put (cs := #[.slice Ao15 t447.length co15, .bool false]) ?_ 1 _ rfl; (with_reducible repeat (first | refine qN ?_ _ | refine qD ?_ | refine qA ?_ _)); refine blk_put (cs := #[.slice none 0 0, .bool false]) ?_ 0 _ rfl; (with_reducible repeat (first | refine qN ?_ _ | refine qD ?_ | refine qA ?_ _)); exact BK455.out) hb); have n4_ := Aside0.mk (below_step (by repeat (first | (with_reducible first | exact HB.out | apply pA | apply pN | apply pD | refine pS ?_ GE444.out | refine pS ?_ GE455.out) | exact HB.out)) hb); clear HO449; clear HO453; clear BK444; clear BK455; clear HB; have HO449 := n0_; have HO453 := n1_; have BK444 := n2_; have BK455 := n3_; have HB := n4_; clear n0_ n1_ n2_ n3_ n4_; (try clear hb); (try clear hb2); (try clear hk); (try clear hi)))
          go_meet
          case rel => exact ⟨_, (false), (by first | rfl | (simp; done) | (simp [*]; done)), H', ⟨by first | omega | exact Nat.le_refl _⟩, ⟨by (with_reducible repeat (first | apply Kd.R_alloc | apply Kd.R_drewN | apply Kd.R_drew)); exact Kd.R_mono HO449.out (fun _ hk => trivial)⟩, ⟨by (with_reducible repeat (first | refine qN ?_ _ | refine qD ?_ | refine qA ?_ _)); exact BK444.out⟩, ⟨by (with_reducible repeat (first | refine qN ?_ _ | refine qD ?_ | refine qA ?_ _)); exact BK455.out⟩, ⟨by repeat (first | (with_reducible first | exact HB.out | apply pA | apply pN | apply pD | refine pS ?_ GE444.out | refine pS ?_ GE455.out) | exact HB.out)⟩⟩
        · replace c20 := Bool.eq_false_iff.mpr c20
          subst c20
          have H1 : (portreevelaw07_StuffRight.j0 k a1 t445 false (decide ((t451.length : Int) > 0)) l0_0 a0_1 t447 t450) = some r := by rw [if_neg (show ¬ (false = true) by decide)] at H; exact H
          clear H
          have H := H1
          clear H1
          have H' := Aside0.mk H
          clear H
          have hnb24 := NB455_444.out
          have hnc24 := NB444_455.out
          have hcz25_0 : w14.cell? ⟨gb455, 0, none⟩ = some (.slice none 0 0) := (blk_cell BK455.out 0).trans rfl
          have hcz25_1 : w14.cell? ⟨gb455, 1, none⟩ = some (.bool false) := (blk_cell BK455.out 1).trans rfl
          have hfz25_0 := blk_frozen BK455.out 0
          have hfz25_1 := blk_frozen BK455.out 1
          go_wp2_with (first | ((with_reducible refine gate_callee (f := 21) rfl ?_); refine goesL_ (some 22) rfl rfl Try.func21 (by kernel_rfl) rfl #[.agg #[.slice Ao15 t447.length co15, .bool t450]] rfl (by (try simp only [List.map_toArray, List.map_cons, List.map_nil]); first | done | rfl | (simp only [List.length_drop, List.length_take]; rfl)) ?_; (with_reducible refine (portreeveref07_Right.calls k _ _ t447 t450 true _ ?side1 ?side2 A18.out).mono ?_); (case side1 => refine (Kd.R_reads' (e := 5) (base := w.heap.size) (ok := fun k_ => some k_ ≠ (v452 : Value).ownBlock) (n := t447.length) (c := co15) ?_).2.2; exact (by (with_reducible repeat (first | apply Kd.R_alloc | apply Kd.R_drewN | apply Kd.R_drew)); exact (Kd.R_mono (Kd.R_far (p := ⟨gb455, 1, none⟩) (Kd.R_far (p := ⟨gb455, 0, none⟩) (Kd.R_types HO449.out BK455.out (by decide)) (fun _ hk => hk.2) (.slice Ao15 t447.length co15)) (fun _ hk => hk.2) (.bool t450)) (fun _ h_ => h_.1)))); (case side2 => exact (Kd.R_reads' HO449.out).2.1); rintro e w26 ⟨rfl, hb⟩; refine ⟨_, rfl, ?_⟩; have n0_ := Aside0.mk (Kd.R_below (by (with_reducible repeat (first | apply Kd.R_alloc | apply Kd.R_drewN | apply Kd.R_drew)); exact (Kd.R_mono (Kd.R_far (p := ⟨gb455, 1, none⟩) (Kd.R_far (p := ⟨gb455, 0, none⟩) (Kd.R_types HO449.out BK455.out (by decide)) (fun _ hk => hk.2) (.slice Ao15 t447.length co15)) (fun _ hk => hk.2) (.bool t450)) (fun _ h_ => h_.1))) hb); have n1_ := Aside0.mk (Kd.R_below (by (with_reducible repeat (first | apply Kd.R_alloc | apply Kd.R_drewN | apply Kd.R_drew)); exact (Kd.R_mono (Kd.R_far (p := ⟨gb455, 1, none⟩) (Kd.R_far (p := ⟨gb455, 0, none⟩) (Kd.R_types HO453.out BK455.out (by decide)) (fun _ hk => hk.2) (.slice Ao15 t447.length co15)) (fun _ hk => hk.2) (.bool t450)) (fun _ h_ => h_.1))) hb); have n2_ := Aside0.mk (blk_below (g := gb444) (o := .cells #[.slice A0_0 l0_0.length c0_0, .bool a0_1] 37 (0, 0)) (by (with_reducible repeat (first | refine qN ?_ _ | refine qD ?_ | refine qA ?_ _)); refine blk_far ?_ NB444_455.out _; (with_reducible repeat (first | refine qN ?_ _ | refine qD ?_ | refine qA ?_ _)); refine blk_far ?_ NB444_455.out _; (with_reducible repeat (first | refine qN ?_ _ | refine qD ?_ | refine qA ?_ _)); exact BK444.out) hb); have n3_ := Aside0.mk (blk_below (g := gb455) (o := .cells #[.slice Ao15 t447.length co15, .bool t450] 37 (0, 0)) (by (with_reducible repeat (first | refine qN ?_ _ | refine qD ?_ | refine qA ?_ _)); refine blk_put (cs := #[.slice Ao15 t447.length co15, .bool false]) ?_ 1 _ rfl; (with_reducible repeat (first | refine qN ?_ _ | refine qD ?_ | refine qA ?_ _)); refine blk_put (cs := #[.slice none 0 0, .bool false]) ?_ 0 _ rfl; (with_reducible repeat (first | refine qN ?_ _ | refine qD ?_ | refine qA ?_ _)); exact BK455.out) hb); have n4_ := Aside0.mk (below_step (by repeat (first | (with_reducible first | exact HB.out | apply pA | apply pN | apply pD | refine pS ?_ GE444.out | refine pS ?_ GE455.out) | exact HB.out)) hb); clear HO449; clear HO453; clear BK444; clear BK455; clear HB; have HO449 := n0_; have HO453 := n1_; have BK444 := n2_; have BK455 := n3_; have HB := n4_; clear n0_ n1_ n2_ n3_ n4_; (try clear hb); (try clear hb2); (try clear hk); (try clear hi); obtain ⟨Ao27, co27, eo27⟩ := Kd.R_slice HO453.out; subst eo27))
          go_meet
          case rel => exact ⟨_, (decide ((t451.length : Int) > 0)), (by first | rfl | (simp; done) | (simp [*]; done)), H', ⟨by first | omega | exact Nat.le_refl _⟩, ⟨by (with_reducible repeat (first | apply Kd.R_alloc | apply Kd.R_drewN | apply Kd.R_drew)); exact Kd.R_mono HO449.out (fun _ hk => trivial)⟩, ⟨by (with_reducible repeat (first | refine qN ?_ _ | refine qD ?_ | refine qA ?_ _)); exact BK444.out⟩, ⟨by (with_reducible repeat (first | refine qN ?_ _ | refine qD ?_ | refine qA ?_ _)); exact BK455.out⟩, ⟨by repeat (first | (with_reducible first | exact HB.out | apply pA | apply pN | apply pD | refine pS ?_ GE444.out | refine pS ?_ GE455.out) | exact HB.out)⟩⟩
      · replace c19 := Bool.eq_false_iff.mpr c19
        subst c19
        have H1 : (portreevelaw07_StuffRight.j0 k a1 t445 t454 true l0_0 a0_1 t447 t450) = some r := by rw [if_neg (show ¬ (false = true) by decide)] at H; exact H
        clear H
        have H := H1
        clear H1
        have H' := Aside0.mk H
        clear H
        have hnb28 := NB455_444.out
        have hnc28 := NB444_455.out
        have hcz29_0 : w14.cell? ⟨gb455, 0, none⟩ = some (.slice none 0 0) := (blk_cell BK455.out 0).trans rfl
        have hcz29_1 : w14.cell? ⟨gb455, 1, none⟩ = some (.bool false) := (blk_cell BK455.out 1).trans rfl
        have hfz29_0 := blk_frozen BK455.out 0
        have hfz29_1 := blk_frozen BK455.out 1
        go_wp2_with (first | ((with_reducible refine gate_callee (f := 21) rfl ?_); refine goesL_ (some 22) rfl rfl Try.func21 (by kernel_rfl) rfl #[.agg #[.slice Ao15 t447.length co15, .bool t450]] rfl (by (try simp only [List.map_toArray, List.map_cons, List.map_nil]); first | done | rfl | (simp only [List.length_drop, List.length_take]; rfl)) ?_; (with_reducible refine (portreeveref07_Right.calls k _ _ t447 t450 false _ ?side1 ?side2 A18.out).mono ?_); (case side1 => refine (Kd.R_reads' (e := 5) (base := w.heap.size) (ok := fun k_ => some k_ ≠ (v452 : Value).ownBlock) (n := t447.length) (c := co15) ?_).2.2; exact (by (with_reducible repeat (first | apply Kd.R_alloc | apply Kd.R_drewN | apply Kd.R_drew)); exact (Kd.R_mono (Kd.R_far (p := ⟨gb455, 1, none⟩) (Kd.R_far (p := ⟨gb455, 0, none⟩) (Kd.R_types HO449.out BK455.out (by decide)) (fun _ hk => hk.2) (.slice Ao15 t447.length co15)) (fun _ hk => hk.2) (.bool t450)) (fun _ h_ => h_.1)))); (case side2 => exact (Kd.R_reads' HO449.out).2.1); rintro e w30 ⟨rfl, hb⟩; refine ⟨_, rfl, ?_⟩; have n0_ := Aside0.mk (Kd.R_below (by (with_reducible repeat (first | apply Kd.R_alloc | apply Kd.R_drewN | apply Kd.R_drew)); exact (Kd.R_mono (Kd.R_far (p := ⟨gb455, 1, none⟩) (Kd.R_far (p := ⟨gb455, 0, none⟩) (Kd.R_types HO449.out BK455.out (by decide)) (fun _ hk => hk.2) (.slice Ao15 t447.length co15)) (fun _ hk => hk.2) (.bool t450)) (fun _ h_ => h_.1))) hb); have n1_ := Aside0.mk (Kd.R_below (by (with_reducible repeat (first | apply Kd.R_alloc | apply Kd.R_drewN | apply Kd.R_drew)); exact (Kd.R_mono (Kd.R_far (p := ⟨gb455, 1, none⟩) (Kd.R_far (p := ⟨gb455, 0, none⟩) (Kd.R_types HO453.out BK455.out (by decide)) (fun _ hk => hk.2) (.slice Ao15 t447.length co15)) (fun _ hk => hk.2) (.bool t450)) (fun _ h_ => h_.1))) hb); have n2_ := Aside0.mk (blk_below (g := gb444) (o := .cells #[.slice A0_0 l0_0.length c0_0, .bool a0_1] 37 (0, 0)) (by (with_reducible repeat (first | refine qN ?_ _ | refine qD ?_ | refine qA ?_ _)); refine blk_far ?_ NB444_455.out _; (with_reducible repeat (first | refine qN ?_ _ | refine qD ?_ | refine qA ?_ _)); refine blk_far ?_ NB444_455.out _; (with_reducible repeat (first | refine qN ?_ _ | refine qD ?_ | refine qA ?_ _)); exact BK444.out) hb); have n3_ := Aside0.mk (blk_below (g := gb455) (o := .cells #[.slice Ao15 t447.length co15, .bool t450] 37 (0, 0)) (by (with_reducible repeat (first | refine qN ?_ _ | refine qD ?_ | refine qA ?_ _)); refine blk_put (cs := #[.slice Ao15 t447.length co15, .bool false]) ?_ 1 _ rfl; (with_reducible repeat (first | refine qN ?_ _ | refine qD ?_ | refine qA ?_ _)); refine blk_put (cs := #[.slice none 0 0, .bool false]) ?_ 0 _ rfl; (with_reducible repeat (first | refine qN ?_ _ | refine qD ?_ | refine qA ?_ _)); exact BK455.out) hb); have n4_ := Aside0.mk (below_step (by repeat (first | (with_reducible first | exact HB.out | apply pA | apply pN | apply pD | refine pS ?_ GE444.out | refine pS ?_ GE455.out) | exact HB.out)) hb); clear HO449; clear HO453; clear BK444; clear BK455; clear HB; have HO449 := n0_; have HO453 := n1_; have BK444 := n2_; have BK455 := n3_; have HB := n4_; clear n0_ n1_ n2_ n3_ n4_; (try clear hb); (try clear hb2); (try clear hk); (try clear hi)))
        go_meet
        case rel => exact ⟨_, (true), (by first | rfl | (simp; done) | (simp [*]; done)), H', ⟨by first | omega | exact Nat.le_refl _⟩, ⟨by (with_reducible repeat (first | apply Kd.R_alloc | apply Kd.R_drewN | apply Kd.R_drew)); exact Kd.R_mono HO449.out (fun _ hk => trivial)⟩, ⟨by (with_reducible repeat (first | refine qN ?_ _ | refine qD ?_ | refine qA ?_ _)); exact BK444.out⟩, ⟨by (with_reducible repeat (first | refine qN ?_ _ | refine qD ?_ | refine qA ?_ _)); exact BK455.out⟩, ⟨by repeat (first | (with_reducible first | exact HB.out | apply pA | apply pN | apply pD | refine pS ?_ GE444.out | refine pS ?_ GE455.out) | exact HB.out)⟩⟩
    case rest =>
      clear HC7
      try clear c1
      try clear c2
      try clear p2
      try clear c5
      try clear c9
      try clear c10
      try clear c16
      try clear c19
      try clear c20
      try clear c21
      try clear c22
      try clear c24
      try clear c28
      try clear hcz10_0
      try clear hcz10_1
      try clear hcz12_0
      try clear hcz12_1
      try clear hcz17_0
      try clear hcz17_1
      try clear hcz22_0
      try clear hcz22_1
      try clear hcz25_0
      try clear hcz25_1
      try clear hcz29_0
      try clear hcz29_1
      try clear hfz10_0
      try clear hfz10_1
      try clear hfz12_0
      try clear hfz12_1
      try clear hfz17_0
      try clear hfz17_1
      try clear hfz22_0
      try clear hfz22_1
      try clear hfz25_0
      try clear hfz25_1
      try clear hfz29_0
      try clear hfz29_1
      obtain ⟨kq, x32_6, rfl, HA, HJ6, HO_456000, BK444, BK455, HB⟩ := hcut
      cases kq with
      | zero => exact absurd HA.out (by simp [portreevelaw07_StuffRight.j0])
      | succ kj6 =>
        have H := HA.out
        clear HA
        simp only [portreevelaw07_StuffRight.j0] at H
        by_cases c31 : x32_6 = true
        · subst c31
          have H1 : (some false) = some r := by rw [if_pos rfl] at H; exact H
          clear H
          have H := H1
          clear H1
          exact absurd ((Option.some.inj H).trans hlaw_.out) (by decide)
        · replace c31 := Bool.eq_false_iff.mpr c31
          subst c31
          have H1 : (if a0_1 = true then (if t445 = true then (if t454 = true then (some false) else (some (t450 == (a1 != 126)))) else (some false)) else (if t445 = true then (if a1 = 126 then (some true) else (if t454 = true then (some false) else (if t450 = true then (if (l0_0.length : Int) = 1508 then (some true) else (some ((t447.length : Int) == (wrap64 ((l0_0.length : Int) + 1))))) else (some ((t447.length : Int) == (wrap64 ((l0_0.length : Int) + 1))))))) else (some false))) = some r := by rw [if_neg (show ¬ (false = true) by decide)] at H; exact H
          clear H
          have H := H1
          clear H1
          by_cases c32 : a0_1 = true
          · subst c32
            have H1 : (if t445 = true then (if t454 = true then (some false) else (some (t450 == (a1 != 126)))) else (some false)) = some r := by rw [if_pos rfl] at H; exact H
            clear H
            have H := H1
            clear H1
            by_cases c33 : t445 = true
            · subst c33
              have H1 : (if t454 = true then (some false) else (some (t450 == (a1 != 126)))) = some r := by rw [if_pos rfl] at H; exact H
              clear H
              have H := H1
              clear H1
              by_cases c34 : t454 = true
              · subst c34
                have H1 : (some false) = some r := by rw [if_pos rfl] at H; exact H
                clear H
                have H := H1
                clear H1
                exact absurd ((Option.some.inj H).trans hlaw_.out) (by decide)
              · replace c34 := Bool.eq_false_iff.mpr c34
                subst c34
                have H1 : (some (t450 == (a1 != 126))) = some r := by rw [if_neg (show ¬ (false = true) by decide)] at H; exact H
                clear H
                have H := H1
                clear H1
                clear hlaw_
                obtain rfl := Option.some.inj H
                have hnb35 := NB444_455.out
                have hnc35 := NB455_444.out
                have hcz36_0 : wc.cell? ⟨gb444, 0, none⟩ = some (.slice A0_0 l0_0.length c0_0) := (blk_cell BK444.out 0).trans rfl
                have hcz36_1 : wc.cell? ⟨gb444, 1, none⟩ = some (.bool true) := (blk_cell BK444.out 1).trans rfl
                have hfz36_0 := blk_frozen BK444.out 0
                have hfz36_1 := blk_frozen BK444.out 1
                have hcz37_0 : wc.cell? ⟨gb455, 0, none⟩ = some (.slice Ao15 t447.length co15) := (blk_cell BK455.out 0).trans rfl
                have hcz37_1 : wc.cell? ⟨gb455, 1, none⟩ = some (.bool t450) := (blk_cell BK455.out 1).trans rfl
                have hfz37_0 := blk_frozen BK455.out 0
                have hfz37_1 := blk_frozen BK455.out 1
                go_wp2
                go_ret
                exact ⟨by first | rfl | (simp [errW_none, errW_some] <;> rfl) | (simp [*, errW_none, errW_some] <;> rfl), by repeat (first | (with_reducible first | exact HB.out | apply pA | apply pN | apply pD | refine pS ?_ GE444.out | refine pS ?_ GE455.out) | exact HB.out)⟩
            · replace c33 := Bool.eq_false_iff.mpr c33
              subst c33
              have H1 : (some false) = some r := by rw [if_neg (show ¬ (false = true) by decide)] at H; exact H
              clear H
              have H := H1
              clear H1
              exact absurd ((Option.some.inj H).trans hlaw_.out) (by decide)
          · replace c32 := Bool.eq_false_iff.mpr c32
            subst c32
            have H1 : (if t445 = true then (if a1 = 126 then (some true) else (if t454 = true then (some false) else (if t450 = true then (if (l0_0.length : Int) = 1508 then (some true) else (some ((t447.length : Int) == (wrap64 ((l0_0.length : Int) + 1))))) else (some ((t447.length : Int) == (wrap64 ((l0_0.length : Int) + 1))))))) else (some false)) = some r := by rw [if_neg (show ¬ (false = true) by decide)] at H; exact H
            clear H
            have H := H1
            clear H1
            by_cases c38 : t445 = true
            · subst c38
              have H1 : (if a1 = 126 then (some true) else (if t454 = true then (some false) else (if t450 = true then (if (l0_0.length : Int) = 1508 then (some true) else (some ((t447.length : Int) == (wrap64 ((l0_0.length : Int) + 1))))) else (some ((t447.length : Int) == (wrap64 ((l0_0.length : Int) + 1))))))) = some r := by rw [if_pos rfl] at H; exact H
              clear H
              have H := H1
              clear H1
              by_cases c39 : a1 = 126
              · rw [if_pos c39] at H
                have c39b0 : (a1 == 126) = true := beq_iff_eq.mpr c39
                have c39b1 : (a1 != 126) = false := bne_eq_false_iff_eq.mpr c39
                clear c39
                clear hlaw_
                obtain rfl := Option.some.inj H
                have hnb40 := NB444_455.out
                have hnc40 := NB455_444.out
                have hcz41_0 : wc.cell? ⟨gb444, 0, none⟩ = some (.slice A0_0 l0_0.length c0_0) := (blk_cell BK444.out 0).trans rfl
                have hcz41_1 : wc.cell? ⟨gb444, 1, none⟩ = some (.bool false) := (blk_cell BK444.out 1).trans rfl
                have hfz41_0 := blk_frozen BK444.out 0
                have hfz41_1 := blk_frozen BK444.out 1
                go_wp2
                go_ret
                exact ⟨by first | rfl | (simp [errW_none, errW_some] <;> rfl) | (simp [*, errW_none, errW_some] <;> rfl), by repeat (first | (with_reducible first | exact HB.out | apply pA | apply pN | apply pD | refine pS ?_ GE444.out | refine pS ?_ GE455.out) | exact HB.out)⟩
              · rw [if_neg c39] at H
                have c39b0 : (a1 == 126) = false := beq_eq_false_iff_ne.mpr c39
                have c39b1 : (a1 != 126) = true := bne_iff_ne.mpr c39
                by_cases c42 : t454 = true
                · subst c42
                  have H1 : (some false) = some r := by rw [if_pos rfl] at H; exact H
                  clear H
                  have H := H1
                  clear H1
                  exact absurd ((Option.some.inj H).trans hlaw_.out) (by decide)
                · replace c42 := Bool.eq_false_iff.mpr c42
                  subst c42
                  have H1 : (if t450 = true then (if (l0_0.length : Int) = 1508 then (some true) else (some ((t447.length : Int) == (wrap64 ((l0_0.length : Int) + 1))))) else (some ((t447.length : Int) == (wrap64 ((l0_0.length : Int) + 1))))) = some r := by rw [if_neg (show ¬ (false = true) by decide)] at H; exact H
                  clear H
                  have H := H1
                  clear H1
                  by_cases c43 : t450 = true
                  · subst c43
                    have H1 : (if (l0_0.length : Int) = 1508 then (some true) else (some ((t447.length : Int) == (wrap64 ((l0_0.length : Int) + 1))))) = some r := by rw [if_pos rfl] at H; exact H
                    clear H
                    have H := H1
                    clear H1
                    by_cases c44 : (l0_0.length : Int) = 1508
                    · rw [if_pos c44] at H
                      have c44b0 : ((l0_0.length : Int) == 1508) = true := beq_iff_eq.mpr c44
                      have c44b1 : ((l0_0.length : Int) != 1508) = false := bne_eq_false_iff_eq.mpr c44
                      clear c44
                      clear hlaw_
                      obtain rfl := Option.some.inj H
                      have hnb45 := NB444_455.out
                      have hnc45 := NB455_444.out
                      have hcz46_0 : wc.cell? ⟨gb444, 0, none⟩ = some (.slice A0_0 l0_0.length c0_0) := (blk_cell BK444.out 0).trans rfl
                      have hcz46_1 : wc.cell? ⟨gb444, 1, none⟩ = some (.bool false) := (blk_cell BK444.out 1).trans rfl
                      have hfz46_0 := blk_frozen BK444.out 0
                      have hfz46_1 := blk_frozen BK444.out 1
                      have hcz47_0 : wc.cell? ⟨gb455, 0, none⟩ = some (.slice Ao15 t447.length co15) := (blk_cell BK455.out 0).trans rfl
                      have hcz47_1 : wc.cell? ⟨gb455, 1, none⟩ = some (.bool true) := (blk_cell BK455.out 1).trans rfl
                      have hfz47_0 := blk_frozen BK455.out 0
                      have hfz47_1 := blk_frozen BK455.out 1
                      go_wp2
                      go_ret
                      exact ⟨by first | rfl | (simp [errW_none, errW_some] <;> rfl) | (simp [*, errW_none, errW_some] <;> rfl), by repeat (first | (with_reducible first | exact HB.out | apply pA | apply pN | apply pD | refine pS ?_ GE444.out | refine pS ?_ GE455.out) | exact HB.out)⟩
                    · rw [if_neg c44] at H
                      have c44b0 : ((l0_0.length : Int) == 1508) = false := beq_eq_false_iff_ne.mpr c44
                      have c44b1 : ((l0_0.length : Int) != 1508) = true := bne_iff_ne.mpr c44
                      clear hlaw_
                      obtain rfl := Option.some.inj H
                      have hnb48 := NB444_455.out
                      have hnc48 := NB455_444.out
                      have hcz49_0 : wc.cell? ⟨gb444, 0, none⟩ = some (.slice A0_0 l0_0.length c0_0) := (blk_cell BK444.out 0).trans rfl
                      have hcz49_1 : wc.cell? ⟨gb444, 1, none⟩ = some (.bool false) := (blk_cell BK444.out 1).trans rfl
                      have hfz49_0 := blk_frozen BK444.out 0
                      have hfz49_1 := blk_frozen BK444.out 1
                      have hcz50_0 : wc.cell? ⟨gb455, 0, none⟩ = some (.slice Ao15 t447.length co15) := (blk_cell BK455.out 0).trans rfl
                      have hcz50_1 : wc.cell? ⟨gb455, 1, none⟩ = some (.bool true) := (blk_cell BK455.out 1).trans rfl
                      have hfz50_0 := blk_frozen BK455.out 0
                      have hfz50_1 := blk_frozen BK455.out 1
                      go_wp2
                      go_ret
                      exact ⟨by first | rfl | (simp [errW_none, errW_some] <;> rfl) | (simp [*, errW_none, errW_some] <;> rfl), by repeat (first | (with_reducible first | exact HB.out | apply pA | apply pN | apply pD | refine pS ?_ GE444.out | refine pS ?_ GE455.out) | exact HB.out)⟩
                  · replace c43 := Bool.eq_false_iff.mpr c43
                    subst c43
                    have H1 : (some ((t447.length : Int) == (wrap64 ((l0_0.length : Int) + 1)))) = some r := by rw [if_neg (show ¬ (false = true) by decide)] at H; exact H
                    clear H
                    have H := H1
                    clear H1
                    clear hlaw_
                    obtain rfl := Option.some.inj H
                    have hnb51 := NB444_455.out
                    have hnc51 := NB455_444.out
                    have hcz52_0 : wc.cell? ⟨gb444, 0, none⟩ = some (.slice A0_0 l0_0.length c0_0) := (blk_cell BK444.out 0).trans rfl
                    have hcz52_1 : wc.cell? ⟨gb444, 1, none⟩ = some (.bool false) := (blk_cell BK444.out 1).trans rfl
                    have hfz52_0 := blk_frozen BK444.out 0
                    have hfz52_1 := blk_frozen BK444.out 1
                    have hcz53_0 : wc.cell? ⟨gb455, 0, none⟩ = some (.slice Ao15 t447.length co15) := (blk_cell BK455.out 0).trans rfl
                    have hcz53_1 : wc.cell? ⟨gb455, 1, none⟩ = some (.bool false) := (blk_cell BK455.out 1).trans rfl
                    have hfz53_0 := blk_frozen BK455.out 0
                    have hfz53_1 := blk_frozen BK455.out 1
                    go_wp2
                    go_ret
                    exact ⟨by first | rfl | (simp [errW_none, errW_some] <;> rfl) | (simp [*, errW_none, errW_some] <;> rfl), by repeat (first | (with_reducible first | exact HB.out | apply pA | apply pN | apply pD | refine pS ?_ GE444.out | refine pS ?_ GE455.out) | exact HB.out)⟩
            · replace c38 := Bool.eq_false_iff.mpr c38
              subst c38
              have H1 : (some false) = some r := by rw [if_neg (show ¬ (false = true) by decide)] at H; exact H
              clear H
              have H := H1
              clear H1
              exact absurd ((Option.some.inj H).trans hlaw_.out) (by decide)
  · replace c5 := Bool.eq_false_iff.mpr c5
    subst c5
    have H1 : (some t445) = some r := by rw [if_neg (show ¬ (false = true) by decide)] at H; exact H
    clear H
    have H := H1
    clear H1
    clear hlaw_
    obtain rfl := Option.some.inj H
    go_enter Try.func9, Try.ntmps9
    go_wp2_with (first | ((with_reducible refine gate_dst (N := 2) rfl ?_); (try (refine gate_guard (by rfl) ?_; dsimp only)); refine box_event ?hg (N := 2) ?hd (cs := #[.slice A0_0 l0_0.length c0_0, .bool a0_1]) (t := 37) ?hr ?_; (case hd => rfl); (case hg => rfl); (case hr => first | (go_simp; done) | (go_simp; rfl)); intro gb444 hg w54 hbox hb; have n0_ := Aside0.mk (below_step (by repeat (first | (with_reducible first | exact HB.out | apply pA | apply pN | apply pD) | exact HB.out)) hb); have n1_ := Aside0.mk (hbox); have n2_ := Aside0.mk ((by rw [hg]; exact (below_size (by repeat (first | (with_reducible first | exact HB.out | apply pA | apply pN | apply pD) | exact HB.out))) : w.heap.size ≤ gb444)); have n3_ := Aside0.mk ((by rw [hg]; exact (below_size (by repeat (first | (with_reducible first | exact HB.out | apply pA | apply pN | apply pD) | exact HB.out))) : w.heap.size ≤ gb444)); clear HB; have HB := n0_; have BK444 := n1_; have GW444 := n2_; have GE444 := n3_; clear n0_ n1_ n2_ n3_; clear hb hbox hg) | ((with_reducible refine gate_callee (f := 10) rfl ?_); refine goesL_ (some 9) rfl rfl Try.func10 (by kernel_rfl) rfl #[] rfl (by (try simp only [List.map_toArray, List.map_cons, List.map_nil]); first | done | rfl | (simp only [List.length_drop, List.length_take]; rfl)) ?_; (with_reducible refine (portreevelaw07_shown.calls k  t445 _ A3.out).mono ?_); rintro e w55 ⟨rfl, hb⟩; refine ⟨_, rfl, ?_⟩; have n0_ := Aside0.mk (blk_below (g := gb444) (o := .cells #[.slice A0_0 l0_0.length c0_0, .bool a0_1] 37 (0, 0)) (by (with_reducible repeat (first | refine qN ?_ _ | refine qD ?_ | refine qA ?_ _)); exact BK444.out) hb); have n1_ := Aside0.mk (below_step (by repeat (first | (with_reducible first | exact HB.out | apply pA | apply pN | apply pD | refine pS ?_ GE444.out) | exact HB.out)) hb); clear BK444; clear HB; have BK444 := n0_; have HB := n1_; clear n0_ n1_; (try clear hb); (try clear hb2); (try clear hk); (try clear hi); have hcz56_0 : w55.cell? ⟨gb444, 0, none⟩ = some (.slice A0_0 l0_0.length c0_0) := (blk_cell BK444.out 0).trans rfl; have hcz56_1 : w55.cell? ⟨gb444, 1, none⟩ = some (.bool a0_1) := (blk_cell BK444.out 1).trans rfl; have hfz56_0 := blk_frozen BK444.out 0; have hfz56_1 := blk_frozen BK444.out 1) | ((with_reducible refine gate_callee (f := 21) rfl ?_); refine goesL_ (some 11) rfl rfl Try.func21 (by kernel_rfl) rfl #[.agg #[.slice A0_0 l0_0.length c0_0, .bool a0_1]] rfl (by (try simp only [List.map_toArray, List.map_cons, List.map_nil]); first | done | rfl | (simp only [List.length_drop, List.length_take]; rfl)) ?_; (with_reducible refine (portreeveref07_Right.calls k _ _ l0_0 a0_1 false _ ?side1 ?side2 A4.out).mono ?_); (case side1 => repeat (first | exact (Kd.C_below HR0_0.out HB.out) | (with_reducible refine Kd.C_alloc ?_ _) | (with_reducible refine Kd.C_drewN ?_ _) | (with_reducible refine Kd.C_drew ?_))); (case side2 => exact HC0_0.out); rintro e w57 ⟨rfl, hb⟩; refine ⟨_, rfl, ?_⟩; have n0_ := Aside0.mk (blk_below (g := gb444) (o := .cells #[.slice A0_0 l0_0.length c0_0, .bool a0_1] 37 (0, 0)) (by (with_reducible repeat (first | refine qN ?_ _ | refine qD ?_ | refine qA ?_ _)); exact BK444.out) hb); have n1_ := Aside0.mk (below_step (by repeat (first | (with_reducible first | exact HB.out | apply pA | apply pN | apply pD | refine pS ?_ GE444.out) | exact HB.out)) hb); clear BK444; clear HB; have BK444 := n0_; have HB := n1_; clear n0_ n1_; (try clear hb); (try clear hb2); (try clear hk); (try clear hi)))
    go_ret
    exact ⟨by first | rfl | (simp [errW_none, errW_some] <;> rfl) | (simp [*, errW_none, errW_some] <;> rfl), by repeat (first | (with_reducible first | exact HB.out | apply pA | apply pN | apply pD | refine pS ?_ GE444.out) | exact HB.out)⟩

end Go.Proofs.Ytdmhamnnadegnaa.Q

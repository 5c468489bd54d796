-- written by this session's own program (wip/tools/myprint.py), over the kit's print
import Derived.Test.YtdjicabmofbidaaDoorQx0
import Derived.Test.YtdjicabmofbidaaDoorQx2
import Derived.Test.YtdjicabmofbidaaDoorQx3
import Derived.Test.YtdjicabmofbidaaDoorQx5
import Derived.Test.YtdjicabmofbidaaDoorQx9
namespace Go.Proofs.YtdjicabmofbidaaDoor.Q
open Go.RowKit Go.Proofs.YtdjicabmofbidaaDoorW.PrintWords Go.Proofs.YtdjicabmofbidaaDoorW.PrintLast Go.Proofs.YtdjicabmofbidaaDoorW.PrintMore
open Go.Proofs.YtdjicabmofbidaaDoorV Go.Proofs.YtdjicabmofbidaaDoorG
attribute [local go_sem] max2_int min2_int max_two min_two max_three min_three max_four min_four   -- for this text's walks alone
set_option linter.unusedVariables false
set_option linter.unusedSimpArgs false

/-! ### portreevelaw11_FsmTimes: function 6 -/
mutual
def portreevelaw11_FsmTimes.j0 : Nat → Int → Int → Bool → List Int → Int → Bool → Option (Bool)
  | 0, _, _, _, _, _, _ => none
  | k + 1, x0, x1, x5, x6, x7, x9 => if x9 = true then ((fsm_Timed.f x7).bind fun t637 => (if t637 = true then (if x1 = 4 then ((fsm_Timed.f x0).bind fun t638 => (if t638 = true then (if x1 = 5 then (if x7 = 2 then (portreevelaw11_FsmTimes.j1 k x0 x1 x5 x6 x7 x9 false) else (portreevelaw11_FsmTimes.j1 k x0 x1 x5 x6 x7 x9 (x7 != 3))) else (portreevelaw11_FsmTimes.j1 k x0 x1 x5 x6 x7 x9 false)) else (portreevelaw11_FsmTimes.j1 k x0 x1 x5 x6 x7 x9 true))) else (if x1 = 5 then ((fsm_Timed.f x0).bind fun t639 => (if t639 = true then (if x7 = 2 then (portreevelaw11_FsmTimes.j1 k x0 x1 x5 x6 x7 x9 false) else (portreevelaw11_FsmTimes.j1 k x0 x1 x5 x6 x7 x9 (x7 != 3))) else (portreevelaw11_FsmTimes.j1 k x0 x1 x5 x6 x7 x9 true))) else (portreevelaw11_FsmTimes.j1 k x0 x1 x5 x6 x7 x9 false))) else (portreevelaw11_FsmTimes.j1 k x0 x1 x5 x6 x7 x9 true))) else (if x1 = 4 then ((fsm_Timed.f x0).bind fun t640 => (if t640 = true then (if x1 = 5 then (if x7 = 2 then (portreevelaw11_FsmTimes.j1 k x0 x1 x5 x6 x7 x9 false) else (portreevelaw11_FsmTimes.j1 k x0 x1 x5 x6 x7 x9 (x7 != 3))) else (portreevelaw11_FsmTimes.j1 k x0 x1 x5 x6 x7 x9 false)) else (portreevelaw11_FsmTimes.j1 k x0 x1 x5 x6 x7 x9 true))) else (if x1 = 5 then ((fsm_Timed.f x0).bind fun t641 => (if t641 = true then (if x7 = 2 then (portreevelaw11_FsmTimes.j1 k x0 x1 x5 x6 x7 x9 false) else (portreevelaw11_FsmTimes.j1 k x0 x1 x5 x6 x7 x9 (x7 != 3))) else (portreevelaw11_FsmTimes.j1 k x0 x1 x5 x6 x7 x9 true))) else (portreevelaw11_FsmTimes.j1 k x0 x1 x5 x6 x7 x9 false)))
def portreevelaw11_FsmTimes.j1 : Nat → Int → Int → Bool → List Int → Int → Bool → Bool → Option (Bool)
  | 0, _, _, _, _, _, _, _ => none
  | k + 1, x0, x1, x5, x6, x7, x9, x70 => if x70 = true then (some false) else (if x5 = true then ((fsm_Timed.f x7).bind fun t642 => (if t642 = true then ((fsm_Timed.f x0).bind fun t643 => (if t643 = true then (if x1 = 4 then (some x9) else (some true)) else (if x9 = true then (if x1 = 4 then (some x9) else (some true)) else ((portreeveref11_Has.f k x6 6).bind fun t644 => (if t644 = true then (if x1 = 4 then (some x9) else (some true)) else (some false)))))) else (if x1 = 4 then (some x9) else (some true)))) else (some false))
end
def portreevelaw11_FsmTimes.f (k : Nat) (a0 : Int) (a1 : Int) : Option (Bool) := (portreevelaw11_shown.f).bind fun t627 => ((fsm_Next.f a0 a1).bind fun bt628 => (if bt628.2.2 = true then ((portreeveref11_Has.f k bt628.1 7).bind fun t635 => (if t635 = true then (portreevelaw11_FsmTimes.j0 k a0 a1 t627 bt628.1 bt628.2.1 true) else ((portreeveref11_Has.f k bt628.1 10).bind fun t636 => (portreevelaw11_FsmTimes.j0 k a0 a1 t627 bt628.1 bt628.2.1 t636)))) else (if t627 = true then (if a1 = 4 then ((fsm_Timed.f a0).bind fun t633 => (some (!t633))) else (if a1 = 5 then ((fsm_Timed.f a0).bind fun t634 => (some (!t634))) else (some true))) else (some false))))
theorem portreevelaw11_FsmTimes.mono_l : ∀ k, (∀ y0 y1 y2 y3 y4 y5, LeO (portreevelaw11_FsmTimes.j0 k y0 y1 y2 y3 y4 y5) (portreevelaw11_FsmTimes.j0 (k + 1) y0 y1 y2 y3 y4 y5)) ∧ (∀ y0 y1 y2 y3 y4 y5 y6, LeO (portreevelaw11_FsmTimes.j1 k y0 y1 y2 y3 y4 y5 y6) (portreevelaw11_FsmTimes.j1 (k + 1) y0 y1 y2 y3 y4 y5 y6))
  | 0 => ⟨fun _ _ _ _ _ _ r h => by simp [portreevelaw11_FsmTimes.j0] at h, fun _ _ _ _ _ _ _ r h => by simp [portreevelaw11_FsmTimes.j1] at h⟩
  | k + 1 => by
    obtain ⟨ih0, ih1⟩ := portreevelaw11_FsmTimes.mono_l k
    refine ⟨?_, ?_⟩
    · intro y0 y1 y2 y3 y4 y5
      unfold portreevelaw11_FsmTimes.j0
      repeat' first
      | (with_reducible exact ih0 _ _ _ _ _ _)
      | (with_reducible exact ih1 _ _ _ _ _ _ _)
      | (with_reducible exact portreeveref11_Has.mono _ _ _)
      | (with_reducible exact LeO.refl _)
      | (with_reducible exact LeO.none _)
      | (with_reducible refine LeO.ite ?_ ?_)
      | (with_reducible refine LeO.bind ?_ (fun _ => ?_))
      | exact ih0 _ _ _ _ _ _
      | exact ih1 _ _ _ _ _ _ _
      | exact portreeveref11_Has.mono _ _ _
      | exact LeO.none _
      | refine LeO.ite ?_ ?_
      | refine LeO.bind ?_ (fun _ => ?_)
    · intro y0 y1 y2 y3 y4 y5 y6
      unfold portreevelaw11_FsmTimes.j1
      repeat' first
      | (with_reducible exact ih0 _ _ _ _ _ _)
      | (with_reducible exact ih1 _ _ _ _ _ _ _)
      | (with_reducible exact portreeveref11_Has.mono _ _ _)
      | (with_reducible exact LeO.refl _)
      | (with_reducible exact LeO.none _)
      | (with_reducible refine LeO.ite ?_ ?_)
      | (with_reducible refine LeO.bind ?_ (fun _ => ?_))
      | exact ih0 _ _ _ _ _ _
      | exact ih1 _ _ _ _ _ _ _
      | exact portreeveref11_Has.mono _ _ _
      | exact LeO.none _
      | refine LeO.ite ?_ ?_
      | refine LeO.bind ?_ (fun _ => ?_)
theorem portreevelaw11_FsmTimes.mono : ∀ a0 a1 k, LeO (portreevelaw11_FsmTimes.f k a0 a1) (portreevelaw11_FsmTimes.f (k + 1) a0 a1) := by
  intro a0 a1 k
  obtain ⟨ih0, ih1⟩ := portreevelaw11_FsmTimes.mono_l k
  unfold portreevelaw11_FsmTimes.f
  repeat' first
      | (with_reducible exact ih0 _ _ _ _ _ _)
      | (with_reducible exact ih1 _ _ _ _ _ _ _)
      | (with_reducible exact portreeveref11_Has.mono _ _ _)
      | (with_reducible exact LeO.refl _)
      | (with_reducible exact LeO.none _)
      | (with_reducible refine LeO.ite ?_ ?_)
      | (with_reducible refine LeO.bind ?_ (fun _ => ?_))
      | exact ih0 _ _ _ _ _ _
      | exact ih1 _ _ _ _ _ _ _
      | exact portreeveref11_Has.mono _ _ _
      | exact LeO.none _
      | refine LeO.ite ?_ ?_
      | refine LeO.bind ?_ (fun _ => ?_)
set_option maxHeartbeats 8000000 in
set_option maxRecDepth 100000 in
theorem portreevelaw11_FsmTimes.calls (k : Nat) (a0 : Int) (a1 : Int) (r : Bool) (w : World) (hlaw_ : Aside0 (r = true)) (hgl : Gl w) (h : portreevelaw11_FsmTimes.f k a0 a1 = some r) :
    Calls Tryd.prog 6 #[.int .i64 a0, .int .i64 a1] w fun e w' => e = .returned (.bool r) ∧ Below w.heap.size w w' := by
  have HB := Aside0.mk (Below.refl w.heap.size w)
  have HGL := Aside0.mk hgl
  clear hgl
  have H : ((portreevelaw11_shown.f).bind fun t627 => ((fsm_Next.f a0 a1).bind fun bt628 => (if bt628.2.2 = true then ((portreeveref11_Has.f k bt628.1 7).bind fun t635 => (if t635 = true then (portreevelaw11_FsmTimes.j0 k a0 a1 t627 bt628.1 bt628.2.1 true) else ((portreeveref11_Has.f k bt628.1 10).bind fun t636 => (portreevelaw11_FsmTimes.j0 k a0 a1 t627 bt628.1 bt628.2.1 t636)))) else (if t627 = true then (if a1 = 4 then ((fsm_Timed.f a0).bind fun t633 => (some (!t633))) else (if a1 = 5 then ((fsm_Timed.f a0).bind fun t634 => (some (!t634))) else (some true))) else (some false))))) = some r := h
  clear h
  replace H := Option.bind_eq_some_iff.mp H
  obtain ⟨t627, A30, H⟩ := H
  replace H : ((fsm_Next.f a0 a1).bind fun bt628 => (if bt628.2.2 = true then ((portreeveref11_Has.f k bt628.1 7).bind fun t635 => (if t635 = true then (portreevelaw11_FsmTimes.j0 k a0 a1 t627 bt628.1 bt628.2.1 true) else ((portreeveref11_Has.f k bt628.1 10).bind fun t636 => (portreevelaw11_FsmTimes.j0 k a0 a1 t627 bt628.1 bt628.2.1 t636)))) else (if t627 = true then (if a1 = 4 then ((fsm_Timed.f a0).bind fun t633 => (some (!t633))) else (if a1 = 5 then ((fsm_Timed.f a0).bind fun t634 => (some (!t634))) else (some true))) else (some false)))) = some r := H
  have A3 := Aside0.mk A30
  clear A30
  replace H := Option.bind_eq_some_iff.mp H
  obtain ⟨⟨t628, t629, t630⟩, A40, H⟩ := H
  replace H : (if t630 = true then ((portreeveref11_Has.f k t628 7).bind fun t635 => (if t635 = true then (portreevelaw11_FsmTimes.j0 k a0 a1 t627 t628 t629 true) else ((portreeveref11_Has.f k t628 10).bind fun t636 => (portreevelaw11_FsmTimes.j0 k a0 a1 t627 t628 t629 t636)))) else (if t627 = true then (if a1 = 4 then ((fsm_Timed.f a0).bind fun t633 => (some (!t633))) else (if a1 = 5 then ((fsm_Timed.f a0).bind fun t634 => (some (!t634))) else (some true))) else (some false))) = some r := H
  have A4 := Aside0.mk A40
  clear A40
  by_cases c5 : t630 = true
  · subst c5
    have H1 : ((portreeveref11_Has.f k t628 7).bind fun t635 => (if t635 = true then (portreevelaw11_FsmTimes.j0 k a0 a1 t627 t628 t629 true) else ((portreeveref11_Has.f k t628 10).bind fun t636 => (portreevelaw11_FsmTimes.j0 k a0 a1 t627 t628 t629 t636)))) = some r := by rw [if_pos rfl] at H; exact H
    clear H
    have H := H1
    clear H1
    have HC6 := Aside0.mk H
    clear H
    go_enter Tryd.func6, Tryd.ntmps6
    go_upto_region 5 with (first | ((with_reducible refine gate_callee (f := 11) rfl ?_); refine goesL_ (some 10) rfl rfl Tryd.func11 (by kernel_rfl) rfl #[] rfl (by (try simp only [List.map_toArray, List.map_cons, List.map_nil]); first | done | rfl | (simp only [List.length_drop, List.length_take]; rfl)) ?_; (with_reducible refine (portreevelaw11_shown.calls  t627 _ ?side1 A3.out).mono ?_); (case side1 => exact (HGL.out.below (by repeat (first | (with_reducible first | exact HB.out | apply pA | apply pN | apply pD) | exact HB.out)))); rintro e w7 ⟨rfl, hb⟩; refine ⟨_, rfl, ?_⟩; have n0_ := Aside0.mk (below_step (by repeat (first | (with_reducible first | exact HB.out | apply pA | apply pN | apply pD) | exact HB.out)) hb); clear HB; have HB := n0_; clear n0_; (try clear hb); (try clear hb2); (try clear hk); (try clear hi)) | ((with_reducible refine gate_callee (f := 12) rfl ?_); refine goesL_ (some 14) rfl rfl Tryd.func12 (by kernel_rfl) rfl #[.int .i64 a0, .int .i64 a1] rfl (by (try simp only [List.map_toArray, List.map_cons, List.map_nil]); first | done | rfl | (simp only [List.length_drop, List.length_take]; rfl)) ?_; (with_reducible refine (fsm_Next.calls a0 a1 t628 t629 true _ ?side1 A4.out).mono ?_); (case side1 => exact (HGL.out.below (by repeat (first | (with_reducible first | exact HB.out | apply pA | apply pN | apply pD) | exact HB.out)))); rintro e w8 ⟨v631, rfl, ho0, hb⟩; refine ⟨_, rfl, ?_⟩; have n0_ := Aside0.mk (Kd.R_lower ho0 (below_size (by repeat (first | (with_reducible first | exact HB.out | apply pA | apply pN | apply pD) | exact HB.out)))); have n1_ := Aside0.mk (below_step (by repeat (first | (with_reducible first | exact HB.out | apply pA | apply pN | apply pD) | exact HB.out)) hb); clear HB; have HO632 := n0_; have HB := n1_; clear n0_ n1_; (try clear hb); (try clear hb2); (try clear hk); (try clear hi); (try clear ho0)))
    (try simp only [Act.put, List.setIfInBounds_toArray, List.set_cons_zero, List.set_cons_succ])
    go_cut [9] (fun v9 wc => ∃ (kq : Nat) (x9_5 : Bool), v9 = .bool x9_5 ∧ Aside0 (portreevelaw11_FsmTimes.j0 kq a0 a1 t627 t628 t629 x9_5 = some r) ∧ Aside0 (kq ≤ k) ∧ Aside0 (Kd.R (Kd.int .i64) 3 wc w.heap.size (fun _ => True) v631 t628) ∧ Aside0 (Below w.heap.size w wc))
    case first =>
      have H := HC6.out
      clear HC6
      replace H := Option.bind_eq_some_iff.mp H
      obtain ⟨t635, A90, H⟩ := H
      replace H : (if t635 = true then (portreevelaw11_FsmTimes.j0 k a0 a1 t627 t628 t629 true) else ((portreeveref11_Has.f k t628 10).bind fun t636 => (portreevelaw11_FsmTimes.j0 k a0 a1 t627 t628 t629 t636))) = some r := H
      have A9 := Aside0.mk A90
      clear A90
      by_cases c10 : t635 = true
      · subst c10
        have H1 : (portreevelaw11_FsmTimes.j0 k a0 a1 t627 t628 t629 true) = some r := by rw [if_pos rfl] at H; exact H
        clear H
        have H := H1
        clear H1
        have H' := Aside0.mk H
        clear H
        obtain ⟨Ao11, co11, eo11⟩ := Kd.R_slice HO632.out
        subst eo11
        go_wp2_with (first | ((with_reducible refine gate_callee (f := 19) rfl ?_); refine goesL_ (some 35) rfl rfl Tryd.func19 (by kernel_rfl) rfl #[.slice Ao11 t628.length co11, .int .i64 7] rfl (by (try simp only [List.map_toArray, List.map_cons, List.map_nil]); first | done | rfl | (simp only [List.length_drop, List.length_take]; rfl)) ?_; (with_reducible refine (portreeveref11_Has.calls k _ _ t628 7 true _ ?side1 ?side2 A9.out).mono ?_); (case side1 => repeat (first | exact (Kd.R_reads' HO632.out).2.2 | (with_reducible refine Kd.C_alloc ?_ _) | (with_reducible refine Kd.C_drewN ?_ _) | (with_reducible refine Kd.C_drew ?_))); (case side2 => exact (Kd.R_reads' HO632.out).2.1); rintro e w' ⟨rfl, ⟨nd, rfl⟩⟩; refine ⟨_, rfl, ?_⟩))
        go_meet
        case rel => exact ⟨_, (true), (by first | rfl | (simp; done) | (simp [*]; done)), H', ⟨by first | omega | exact Nat.le_refl _⟩, ⟨by (with_reducible repeat (first | apply Kd.R_alloc | apply Kd.R_drewN | apply Kd.R_drew)); exact HO632.out⟩, ⟨by repeat (first | (with_reducible first | exact HB.out | apply pA | apply pN | apply pD) | exact HB.out)⟩⟩
      · replace c10 := Bool.eq_false_iff.mpr c10
        subst c10
        have H1 : ((portreeveref11_Has.f k t628 10).bind fun t636 => (portreevelaw11_FsmTimes.j0 k a0 a1 t627 t628 t629 t636)) = some r := by rw [if_neg (show ¬ (false = true) by decide)] at H; exact H
        clear H
        have H := H1
        clear H1
        replace H := Option.bind_eq_some_iff.mp H
        obtain ⟨t636, A120, H⟩ := H
        replace H : (portreevelaw11_FsmTimes.j0 k a0 a1 t627 t628 t629 t636) = some r := H
        have A12 := Aside0.mk A120
        clear A120
        have H' := Aside0.mk H
        clear H
        obtain ⟨Ao13, co13, eo13⟩ := Kd.R_slice HO632.out
        subst eo13
        go_wp2_with (first | ((with_reducible refine gate_callee (f := 19) rfl ?_); refine goesL_ (some 35) rfl rfl Tryd.func19 (by kernel_rfl) rfl #[.slice Ao13 t628.length co13, .int .i64 7] rfl (by (try simp only [List.map_toArray, List.map_cons, List.map_nil]); first | done | rfl | (simp only [List.length_drop, List.length_take]; rfl)) ?_; (with_reducible refine (portreeveref11_Has.calls k _ _ t628 7 false _ ?side1 ?side2 A9.out).mono ?_); (case side1 => repeat (first | exact (Kd.R_reads' HO632.out).2.2 | (with_reducible refine Kd.C_alloc ?_ _) | (with_reducible refine Kd.C_drewN ?_ _) | (with_reducible refine Kd.C_drew ?_))); (case side2 => exact (Kd.R_reads' HO632.out).2.1); rintro e w' ⟨rfl, ⟨nd, rfl⟩⟩; refine ⟨_, rfl, ?_⟩) | (go_at_call 19; (with_reducible refine (portreeveref11_Has.calls k _ _ t628 10 t636 _ ?side1 ?side2 A12.out).mono ?_); (case side1 => repeat (first | exact (Kd.R_reads' HO632.out).2.2 | (with_reducible refine Kd.C_alloc ?_ _) | (with_reducible refine Kd.C_drewN ?_ _) | (with_reducible refine Kd.C_drew ?_))); (case side2 => exact (Kd.R_reads' HO632.out).2.1); rintro e w' ⟨rfl, ⟨nd, rfl⟩⟩))
        go_meet
        case rel => exact ⟨_, (t636), (by first | rfl | (simp; done) | (simp [*]; done)), H', ⟨by first | omega | exact Nat.le_refl _⟩, ⟨by (with_reducible repeat (first | apply Kd.R_alloc | apply Kd.R_drewN | apply Kd.R_drew)); exact HO632.out⟩, ⟨by repeat (first | (with_reducible first | exact HB.out | apply pA | apply pN | apply pD) | exact HB.out)⟩⟩
    case rest =>
      clear HC6
      try clear c1
      try clear p2
      try clear c5
      try clear c6
      try clear c10
      try clear c11
      try clear c12
      obtain ⟨kq, x9_5, rfl, HA, HJ5, HO_6, HB⟩ := hcut
      cases kq with
      | zero => exact absurd HA.out (by simp [portreevelaw11_FsmTimes.j0])
      | succ kj5 =>
        have H := HA.out
        clear HA
        simp only [portreevelaw11_FsmTimes.j0] at H
        have HC14 := Aside0.mk H
        clear H
        go_upto_region 6 with (fail)
        go_cut [70] (fun v70 wc => ∃ (kq : Nat) (x70_13 : Bool), v70 = .bool x70_13 ∧ Aside0 (portreevelaw11_FsmTimes.j1 kq a0 a1 t627 t628 t629 x9_5 x70_13 = some r) ∧ Aside0 (kq ≤ kj5) ∧ Aside0 (Kd.R (Kd.int .i64) 3 wc w.heap.size (fun _ => True) v631 t628) ∧ Aside0 (Below w.heap.size w wc))
        case first =>
          have H := HC14.out
          clear HC14
          by_cases c15 : x9_5 = true
          · subst c15
            have H1 : ((fsm_Timed.f t629).bind fun t637 => (if t637 = true then (if a1 = 4 then ((fsm_Timed.f a0).bind fun t638 => (if t638 = true then (if a1 = 5 then (if t629 = 2 then (portreevelaw11_FsmTimes.j1 kj5 a0 a1 t627 t628 t629 true false) else (portreevelaw11_FsmTimes.j1 kj5 a0 a1 t627 t628 t629 true (t629 != 3))) else (portreevelaw11_FsmTimes.j1 kj5 a0 a1 t627 t628 t629 true false)) else (portreevelaw11_FsmTimes.j1 kj5 a0 a1 t627 t628 t629 true true))) else (if a1 = 5 then ((fsm_Timed.f a0).bind fun t639 => (if t639 = true then (if t629 = 2 then (portreevelaw11_FsmTimes.j1 kj5 a0 a1 t627 t628 t629 true false) else (portreevelaw11_FsmTimes.j1 kj5 a0 a1 t627 t628 t629 true (t629 != 3))) else (portreevelaw11_FsmTimes.j1 kj5 a0 a1 t627 t628 t629 true true))) else (portreevelaw11_FsmTimes.j1 kj5 a0 a1 t627 t628 t629 true false))) else (portreevelaw11_FsmTimes.j1 kj5 a0 a1 t627 t628 t629 true true))) = some r := by rw [if_pos rfl] at H; exact H
            clear H
            have H := H1
            clear H1
            replace H := Option.bind_eq_some_iff.mp H
            obtain ⟨t637, A160, H⟩ := H
            replace H : (if t637 = true then (if a1 = 4 then ((fsm_Timed.f a0).bind fun t638 => (if t638 = true then (if a1 = 5 then (if t629 = 2 then (portreevelaw11_FsmTimes.j1 kj5 a0 a1 t627 t628 t629 true false) else (portreevelaw11_FsmTimes.j1 kj5 a0 a1 t627 t628 t629 true (t629 != 3))) else (portreevelaw11_FsmTimes.j1 kj5 a0 a1 t627 t628 t629 true false)) else (portreevelaw11_FsmTimes.j1 kj5 a0 a1 t627 t628 t629 true true))) else (if a1 = 5 then ((fsm_Timed.f a0).bind fun t639 => (if t639 = true then (if t629 = 2 then (portreevelaw11_FsmTimes.j1 kj5 a0 a1 t627 t628 t629 true false) else (portreevelaw11_FsmTimes.j1 kj5 a0 a1 t627 t628 t629 true (t629 != 3))) else (portreevelaw11_FsmTimes.j1 kj5 a0 a1 t627 t628 t629 true true))) else (portreevelaw11_FsmTimes.j1 kj5 a0 a1 t627 t628 t629 true false))) else (portreevelaw11_FsmTimes.j1 kj5 a0 a1 t627 t628 t629 true true)) = some r := H
            have A16 := Aside0.mk A160
            clear A160
            by_cases c17 : t637 = true
            · subst c17
              have H1 : (if a1 = 4 then ((fsm_Timed.f a0).bind fun t638 => (if t638 = true then (if a1 = 5 then (if t629 = 2 then (portreevelaw11_FsmTimes.j1 kj5 a0 a1 t627 t628 t629 true false) else (portreevelaw11_FsmTimes.j1 kj5 a0 a1 t627 t628 t629 true (t629 != 3))) else (portreevelaw11_FsmTimes.j1 kj5 a0 a1 t627 t628 t629 true false)) else (portreevelaw11_FsmTimes.j1 kj5 a0 a1 t627 t628 t629 true true))) else (if a1 = 5 then ((fsm_Timed.f a0).bind fun t639 => (if t639 = true then (if t629 = 2 then (portreevelaw11_FsmTimes.j1 kj5 a0 a1 t627 t628 t629 true false) else (portreevelaw11_FsmTimes.j1 kj5 a0 a1 t627 t628 t629 true (t629 != 3))) else (portreevelaw11_FsmTimes.j1 kj5 a0 a1 t627 t628 t629 true true))) else (portreevelaw11_FsmTimes.j1 kj5 a0 a1 t627 t628 t629 true false))) = some r := by rw [if_pos rfl] at H; exact H
              clear H
              have H := H1
              clear H1
              by_cases c18 : a1 = 4
              · rw [if_pos c18] at H
                have c18b0 : (a1 == 4) = true := beq_iff_eq.mpr c18
                have c18b1 : (a1 != 4) = false := bne_eq_false_iff_eq.mpr c18
                clear c18
                (first | rw [c18b0] | (simp only [i64_w, i32_w]; rw [c18b0]) | skip)
                replace H := Option.bind_eq_some_iff.mp H
                obtain ⟨t638, A190, H⟩ := H
                replace H : (if t638 = true then (if a1 = 5 then (if t629 = 2 then (portreevelaw11_FsmTimes.j1 kj5 a0 a1 t627 t628 t629 true false) else (portreevelaw11_FsmTimes.j1 kj5 a0 a1 t627 t628 t629 true (t629 != 3))) else (portreevelaw11_FsmTimes.j1 kj5 a0 a1 t627 t628 t629 true false)) else (portreevelaw11_FsmTimes.j1 kj5 a0 a1 t627 t628 t629 true true)) = some r := H
                have A19 := Aside0.mk A190
                clear A190
                by_cases c20 : t638 = true
                · subst c20
                  have H1 : (if a1 = 5 then (if t629 = 2 then (portreevelaw11_FsmTimes.j1 kj5 a0 a1 t627 t628 t629 true false) else (portreevelaw11_FsmTimes.j1 kj5 a0 a1 t627 t628 t629 true (t629 != 3))) else (portreevelaw11_FsmTimes.j1 kj5 a0 a1 t627 t628 t629 true false)) = some r := by rw [if_pos rfl] at H; exact H
                  clear H
                  have H := H1
                  clear H1
                  by_cases c21 : a1 = 5
                  · rw [if_pos c21] at H
                    have c21b0 : (a1 == 5) = true := beq_iff_eq.mpr c21
                    have c21b1 : (a1 != 5) = false := bne_eq_false_iff_eq.mpr c21
                    clear c21
                    by_cases c22 : t629 = 2
                    · rw [if_pos c22] at H
                      have c22b0 : (t629 == 2) = true := beq_iff_eq.mpr c22
                      have c22b1 : (t629 != 2) = false := bne_eq_false_iff_eq.mpr c22
                      clear c22
                      have H' := Aside0.mk H
                      clear H
                      go_wp2_with (first | (go_at_call 15; (with_reducible refine (fsm_Timed.calls t629 true _ A16.out).mono ?_); rintro e w' ⟨rfl, ⟨nd, rfl⟩⟩) | (go_at_call 15; (with_reducible refine (fsm_Timed.calls a0 true _ A19.out).mono ?_); rintro e w' ⟨rfl, ⟨nd, rfl⟩⟩))
                      go_meet
                      case rel => exact ⟨_, (false), (by first | rfl | (simp; done) | (simp [*]; done)), H', ⟨by have := HJ5.out; first | omega | exact Nat.le_refl _⟩, ⟨by (with_reducible repeat (first | apply Kd.R_alloc | apply Kd.R_drewN | apply Kd.R_drew)); exact HO_6.out⟩, ⟨by repeat (first | (with_reducible first | exact HB.out | apply pA | apply pN | apply pD) | exact HB.out)⟩⟩
                    · rw [if_neg c22] at H
                      have c22b0 : (t629 == 2) = false := beq_eq_false_iff_ne.mpr c22
                      have c22b1 : (t629 != 2) = true := bne_iff_ne.mpr c22
                      have H' := Aside0.mk H
                      clear H
                      go_wp2_with (first | (go_at_call 15; (with_reducible refine (fsm_Timed.calls t629 true _ A16.out).mono ?_); rintro e w' ⟨rfl, ⟨nd, rfl⟩⟩) | (go_at_call 15; (with_reducible refine (fsm_Timed.calls a0 true _ A19.out).mono ?_); rintro e w' ⟨rfl, ⟨nd, rfl⟩⟩))
                      go_meet
                      case rel => exact ⟨_, ((t629 != 3)), (by first | rfl | (simp; done) | (simp [*]; done)), H', ⟨by have := HJ5.out; first | omega | exact Nat.le_refl _⟩, ⟨by (with_reducible repeat (first | apply Kd.R_alloc | apply Kd.R_drewN | apply Kd.R_drew)); exact HO_6.out⟩, ⟨by repeat (first | (with_reducible first | exact HB.out | apply pA | apply pN | apply pD) | exact HB.out)⟩⟩
                  · rw [if_neg c21] at H
                    have c21b0 : (a1 == 5) = false := beq_eq_false_iff_ne.mpr c21
                    have c21b1 : (a1 != 5) = true := bne_iff_ne.mpr c21
                    have H' := Aside0.mk H
                    clear H
                    go_wp2_with (first | (go_at_call 15; (with_reducible refine (fsm_Timed.calls t629 true _ A16.out).mono ?_); rintro e w' ⟨rfl, ⟨nd, rfl⟩⟩) | (go_at_call 15; (with_reducible refine (fsm_Timed.calls a0 true _ A19.out).mono ?_); rintro e w' ⟨rfl, ⟨nd, rfl⟩⟩))
                    go_meet
                    case rel => exact ⟨_, (false), (by first | rfl | (simp; done) | (simp [*]; done)), H', ⟨by have := HJ5.out; first | omega | exact Nat.le_refl _⟩, ⟨by (with_reducible repeat (first | apply Kd.R_alloc | apply Kd.R_drewN | apply Kd.R_drew)); exact HO_6.out⟩, ⟨by repeat (first | (with_reducible first | exact HB.out | apply pA | apply pN | apply pD) | exact HB.out)⟩⟩
                · replace c20 := Bool.eq_false_iff.mpr c20
                  subst c20
                  have H1 : (portreevelaw11_FsmTimes.j1 kj5 a0 a1 t627 t628 t629 true true) = some r := by rw [if_neg (show ¬ (false = true) by decide)] at H; exact H
                  clear H
                  have H := H1
                  clear H1
                  have H' := Aside0.mk H
                  clear H
                  go_wp2_with (first | (go_at_call 15; (with_reducible refine (fsm_Timed.calls t629 true _ A16.out).mono ?_); rintro e w' ⟨rfl, ⟨nd, rfl⟩⟩) | (go_at_call 15; (with_reducible refine (fsm_Timed.calls a0 false _ A19.out).mono ?_); rintro e w' ⟨rfl, ⟨nd, rfl⟩⟩))
                  go_meet
                  case rel => exact ⟨_, (true), (by first | rfl | (simp; done) | (simp [*]; done)), H', ⟨by have := HJ5.out; first | omega | exact Nat.le_refl _⟩, ⟨by (with_reducible repeat (first | apply Kd.R_alloc | apply Kd.R_drewN | apply Kd.R_drew)); exact HO_6.out⟩, ⟨by repeat (first | (with_reducible first | exact HB.out | apply pA | apply pN | apply pD) | exact HB.out)⟩⟩
              · rw [if_neg c18] at H
                have c18b0 : (a1 == 4) = false := beq_eq_false_iff_ne.mpr c18
                have c18b1 : (a1 != 4) = true := bne_iff_ne.mpr c18
                (first | rw [c18b0] | (simp only [i64_w, i32_w]; rw [c18b0]) | skip)
                by_cases c23 : a1 = 5
                · rw [if_pos c23] at H
                  have c23b0 : (a1 == 5) = true := beq_iff_eq.mpr c23
                  have c23b1 : (a1 != 5) = false := bne_eq_false_iff_eq.mpr c23
                  clear c23
                  replace H := Option.bind_eq_some_iff.mp H
                  obtain ⟨t639, A240, H⟩ := H
                  replace H : (if t639 = true then (if t629 = 2 then (portreevelaw11_FsmTimes.j1 kj5 a0 a1 t627 t628 t629 true false) else (portreevelaw11_FsmTimes.j1 kj5 a0 a1 t627 t628 t629 true (t629 != 3))) else (portreevelaw11_FsmTimes.j1 kj5 a0 a1 t627 t628 t629 true true)) = some r := H
                  have A24 := Aside0.mk A240
                  clear A240
                  by_cases c25 : t639 = true
                  · subst c25
                    have H1 : (if t629 = 2 then (portreevelaw11_FsmTimes.j1 kj5 a0 a1 t627 t628 t629 true false) else (portreevelaw11_FsmTimes.j1 kj5 a0 a1 t627 t628 t629 true (t629 != 3))) = some r := by rw [if_pos rfl] at H; exact H
                    clear H
                    have H := H1
                    clear H1
                    by_cases c26 : t629 = 2
                    · rw [if_pos c26] at H
                      have c26b0 : (t629 == 2) = true := beq_iff_eq.mpr c26
                      have c26b1 : (t629 != 2) = false := bne_eq_false_iff_eq.mpr c26
                      clear c26
                      have H' := Aside0.mk H
                      clear H
                      go_wp2_with (first | (go_at_call 15; (with_reducible refine (fsm_Timed.calls t629 true _ A16.out).mono ?_); rintro e w' ⟨rfl, ⟨nd, rfl⟩⟩) | (go_at_call 15; (with_reducible refine (fsm_Timed.calls a0 true _ A24.out).mono ?_); rintro e w' ⟨rfl, ⟨nd, rfl⟩⟩))
                      go_meet
                      case rel => exact ⟨_, (false), (by first | rfl | (simp; done) | (simp [*]; done)), H', ⟨by have := HJ5.out; first | omega | exact Nat.le_refl _⟩, ⟨by (with_reducible repeat (first | apply Kd.R_alloc | apply Kd.R_drewN | apply Kd.R_drew)); exact HO_6.out⟩, ⟨by repeat (first | (with_reducible first | exact HB.out | apply pA | apply pN | apply pD) | exact HB.out)⟩⟩
                    · rw [if_neg c26] at H
                      have c26b0 : (t629 == 2) = false := beq_eq_false_iff_ne.mpr c26
                      have c26b1 : (t629 != 2) = true := bne_iff_ne.mpr c26
                      have H' := Aside0.mk H
                      clear H
                      go_wp2_with (first | (go_at_call 15; (with_reducible refine (fsm_Timed.calls t629 true _ A16.out).mono ?_); rintro e w' ⟨rfl, ⟨nd, rfl⟩⟩) | (go_at_call 15; (with_reducible refine (fsm_Timed.calls a0 true _ A24.out).mono ?_); rintro e w' ⟨rfl, ⟨nd, rfl⟩⟩))
                      go_meet
                      case rel => exact ⟨_, ((t629 != 3)), (by first | rfl | (simp; done) | (simp [*]; done)), H', ⟨by have := HJ5.out; first | omega | exact Nat.le_refl _⟩, ⟨by (with_reducible repeat (first | apply Kd.R_alloc | apply Kd.R_drewN | apply Kd.R_drew)); exact HO_6.out⟩, ⟨by repeat (first | (with_reducible first | exact HB.out | apply pA | apply pN | apply pD) | exact HB.out)⟩⟩
                  · replace c25 := Bool.eq_false_iff.mpr c25
                    subst c25
                    have H1 : (portreevelaw11_FsmTimes.j1 kj5 a0 a1 t627 t628 t629 true true) = some r := by rw [if_neg (show ¬ (false = true) by decide)] at H; exact H
                    clear H
                    have H := H1
                    clear H1
                    have H' := Aside0.mk H
                    clear H
                    go_wp2_with (first | (go_at_call 15; (with_reducible refine (fsm_Timed.calls t629 true _ A16.out).mono ?_); rintro e w' ⟨rfl, ⟨nd, rfl⟩⟩) | (go_at_call 15; (with_reducible refine (fsm_Timed.calls a0 false _ A24.out).mono ?_); rintro e w' ⟨rfl, ⟨nd, rfl⟩⟩))
                    go_meet
                    case rel => exact ⟨_, (true), (by first | rfl | (simp; done) | (simp [*]; done)), H', ⟨by have := HJ5.out; first | omega | exact Nat.le_refl _⟩, ⟨by (with_reducible repeat (first | apply Kd.R_alloc | apply Kd.R_drewN | apply Kd.R_drew)); exact HO_6.out⟩, ⟨by repeat (first | (with_reducible first | exact HB.out | apply pA | apply pN | apply pD) | exact HB.out)⟩⟩
                · rw [if_neg c23] at H
                  have c23b0 : (a1 == 5) = false := beq_eq_false_iff_ne.mpr c23
                  have c23b1 : (a1 != 5) = true := bne_iff_ne.mpr c23
                  have H' := Aside0.mk H
                  clear H
                  go_wp2_with (first | (go_at_call 15; (with_reducible refine (fsm_Timed.calls t629 true _ A16.out).mono ?_); rintro e w' ⟨rfl, ⟨nd, rfl⟩⟩))
                  go_meet
                  case rel => exact ⟨_, (false), (by first | rfl | (simp; done) | (simp [*]; done)), H', ⟨by have := HJ5.out; first | omega | exact Nat.le_refl _⟩, ⟨by (with_reducible repeat (first | apply Kd.R_alloc | apply Kd.R_drewN | apply Kd.R_drew)); exact HO_6.out⟩, ⟨by repeat (first | (with_reducible first | exact HB.out | apply pA | apply pN | apply pD) | exact HB.out)⟩⟩
            · replace c17 := Bool.eq_false_iff.mpr c17
              subst c17
              have H1 : (portreevelaw11_FsmTimes.j1 kj5 a0 a1 t627 t628 t629 true true) = some r := by rw [if_neg (show ¬ (false = true) by decide)] at H; exact H
              clear H
              have H := H1
              clear H1
              have H' := Aside0.mk H
              clear H
              go_wp2_with (first | (go_at_call 15; (with_reducible refine (fsm_Timed.calls t629 false _ A16.out).mono ?_); rintro e w' ⟨rfl, ⟨nd, rfl⟩⟩))
              go_meet
              case rel => exact ⟨_, (true), (by first | rfl | (simp; done) | (simp [*]; done)), H', ⟨by have := HJ5.out; first | omega | exact Nat.le_refl _⟩, ⟨by (with_reducible repeat (first | apply Kd.R_alloc | apply Kd.R_drewN | apply Kd.R_drew)); exact HO_6.out⟩, ⟨by repeat (first | (with_reducible first | exact HB.out | apply pA | apply pN | apply pD) | exact HB.out)⟩⟩
          · replace c15 := Bool.eq_false_iff.mpr c15
            subst c15
            have H1 : (if a1 = 4 then ((fsm_Timed.f a0).bind fun t640 => (if t640 = true then (if a1 = 5 then (if t629 = 2 then (portreevelaw11_FsmTimes.j1 kj5 a0 a1 t627 t628 t629 false false) else (portreevelaw11_FsmTimes.j1 kj5 a0 a1 t627 t628 t629 false (t629 != 3))) else (portreevelaw11_FsmTimes.j1 kj5 a0 a1 t627 t628 t629 false false)) else (portreevelaw11_FsmTimes.j1 kj5 a0 a1 t627 t628 t629 false true))) else (if a1 = 5 then ((fsm_Timed.f a0).bind fun t641 => (if t641 = true then (if t629 = 2 then (portreevelaw11_FsmTimes.j1 kj5 a0 a1 t627 t628 t629 false false) else (portreevelaw11_FsmTimes.j1 kj5 a0 a1 t627 t628 t629 false (t629 != 3))) else (portreevelaw11_FsmTimes.j1 kj5 a0 a1 t627 t628 t629 false true))) else (portreevelaw11_FsmTimes.j1 kj5 a0 a1 t627 t628 t629 false false))) = some r := by rw [if_neg (show ¬ (false = true) by decide)] at H; exact H
            clear H
            have H := H1
            clear H1
            by_cases c27 : a1 = 4
            · rw [if_pos c27] at H
              have c27b0 : (a1 == 4) = true := beq_iff_eq.mpr c27
              have c27b1 : (a1 != 4) = false := bne_eq_false_iff_eq.mpr c27
              clear c27
              replace H := Option.bind_eq_some_iff.mp H
              obtain ⟨t640, A280, H⟩ := H
              replace H : (if t640 = true then (if a1 = 5 then (if t629 = 2 then (portreevelaw11_FsmTimes.j1 kj5 a0 a1 t627 t628 t629 false false) else (portreevelaw11_FsmTimes.j1 kj5 a0 a1 t627 t628 t629 false (t629 != 3))) else (portreevelaw11_FsmTimes.j1 kj5 a0 a1 t627 t628 t629 false false)) else (portreevelaw11_FsmTimes.j1 kj5 a0 a1 t627 t628 t629 false true)) = some r := H
              have A28 := Aside0.mk A280
              clear A280
              by_cases c29 : t640 = true
              · subst c29
                have H1 : (if a1 = 5 then (if t629 = 2 then (portreevelaw11_FsmTimes.j1 kj5 a0 a1 t627 t628 t629 false false) else (portreevelaw11_FsmTimes.j1 kj5 a0 a1 t627 t628 t629 false (t629 != 3))) else (portreevelaw11_FsmTimes.j1 kj5 a0 a1 t627 t628 t629 false false)) = some r := by rw [if_pos rfl] at H; exact H
                clear H
                have H := H1
                clear H1
                by_cases c30 : a1 = 5
                · rw [if_pos c30] at H
                  have c30b0 : (a1 == 5) = true := beq_iff_eq.mpr c30
                  have c30b1 : (a1 != 5) = false := bne_eq_false_iff_eq.mpr c30
                  clear c30
                  by_cases c31 : t629 = 2
                  · rw [if_pos c31] at H
                    have c31b0 : (t629 == 2) = true := beq_iff_eq.mpr c31
                    have c31b1 : (t629 != 2) = false := bne_eq_false_iff_eq.mpr c31
                    clear c31
                    have H' := Aside0.mk H
                    clear H
                    go_wp2_with (first | (go_at_call 15; (with_reducible refine (fsm_Timed.calls a0 true _ A28.out).mono ?_); rintro e w' ⟨rfl, ⟨nd, rfl⟩⟩))
                    go_meet
                    case rel => exact ⟨_, (false), (by first | rfl | (simp; done) | (simp [*]; done)), H', ⟨by have := HJ5.out; first | omega | exact Nat.le_refl _⟩, ⟨by (with_reducible repeat (first | apply Kd.R_alloc | apply Kd.R_drewN | apply Kd.R_drew)); exact HO_6.out⟩, ⟨by repeat (first | (with_reducible first | exact HB.out | apply pA | apply pN | apply pD) | exact HB.out)⟩⟩
                  · rw [if_neg c31] at H
                    have c31b0 : (t629 == 2) = false := beq_eq_false_iff_ne.mpr c31
                    have c31b1 : (t629 != 2) = true := bne_iff_ne.mpr c31
                    have H' := Aside0.mk H
                    clear H
                    go_wp2_with (first | (go_at_call 15; (with_reducible refine (fsm_Timed.calls a0 true _ A28.out).mono ?_); rintro e w' ⟨rfl, ⟨nd, rfl⟩⟩))
                    go_meet
                    case rel => exact ⟨_, ((t629 != 3)), (by first | rfl | (simp; done) | (simp [*]; done)), H', ⟨by have := HJ5.out; first | omega | exact Nat.le_refl _⟩, ⟨by (with_reducible repeat (first | apply Kd.R_alloc | apply Kd.R_drewN | apply Kd.R_drew)); exact HO_6.out⟩, ⟨by repeat (first | (with_reducible first | exact HB.out | apply pA | apply pN | apply pD) | exact HB.out)⟩⟩
                · rw [if_neg c30] at H
                  have c30b0 : (a1 == 5) = false := beq_eq_false_iff_ne.mpr c30
                  have c30b1 : (a1 != 5) = true := bne_iff_ne.mpr c30
                  have H' := Aside0.mk H
                  clear H
                  go_wp2_with (first | (go_at_call 15; (with_reducible refine (fsm_Timed.calls a0 true _ A28.out).mono ?_); rintro e w' ⟨rfl, ⟨nd, rfl⟩⟩))
                  go_meet
                  case rel => exact ⟨_, (false), (by first | rfl | (simp; done) | (simp [*]; done)), H', ⟨by have := HJ5.out; first | omega | exact Nat.le_refl _⟩, ⟨by (with_reducible repeat (first | apply Kd.R_alloc | apply Kd.R_drewN | apply Kd.R_drew)); exact HO_6.out⟩, ⟨by repeat (first | (with_reducible first | exact HB.out | apply pA | apply pN | apply pD) | exact HB.out)⟩⟩
              · replace c29 := Bool.eq_false_iff.mpr c29
                subst c29
                have H1 : (portreevelaw11_FsmTimes.j1 kj5 a0 a1 t627 t628 t629 false true) = some r := by rw [if_neg (show ¬ (false = true) by decide)] at H; exact H
                clear H
                have H := H1
                clear H1
                have H' := Aside0.mk H
                clear H
                go_wp2_with (first | (go_at_call 15; (with_reducible refine (fsm_Timed.calls a0 false _ A28.out).mono ?_); rintro e w' ⟨rfl, ⟨nd, rfl⟩⟩))
                go_meet
                case rel => exact ⟨_, (true), (by first | rfl | (simp; done) | (simp [*]; done)), H', ⟨by have := HJ5.out; first | omega | exact Nat.le_refl _⟩, ⟨by (with_reducible repeat (first | apply Kd.R_alloc | apply Kd.R_drewN | apply Kd.R_drew)); exact HO_6.out⟩, ⟨by repeat (first | (with_reducible first | exact HB.out | apply pA | apply pN | apply pD) | exact HB.out)⟩⟩
            · rw [if_neg c27] at H
              have c27b0 : (a1 == 4) = false := beq_eq_false_iff_ne.mpr c27
              have c27b1 : (a1 != 4) = true := bne_iff_ne.mpr c27
              by_cases c32 : a1 = 5
              · rw [if_pos c32] at H
                have c32b0 : (a1 == 5) = true := beq_iff_eq.mpr c32
                have c32b1 : (a1 != 5) = false := bne_eq_false_iff_eq.mpr c32
                clear c32
                replace H := Option.bind_eq_some_iff.mp H
                obtain ⟨t641, A330, H⟩ := H
                replace H : (if t641 = true then (if t629 = 2 then (portreevelaw11_FsmTimes.j1 kj5 a0 a1 t627 t628 t629 false false) else (portreevelaw11_FsmTimes.j1 kj5 a0 a1 t627 t628 t629 false (t629 != 3))) else (portreevelaw11_FsmTimes.j1 kj5 a0 a1 t627 t628 t629 false true)) = some r := H
                have A33 := Aside0.mk A330
                clear A330
                by_cases c34 : t641 = true
                · subst c34
                  have H1 : (if t629 = 2 then (portreevelaw11_FsmTimes.j1 kj5 a0 a1 t627 t628 t629 false false) else (portreevelaw11_FsmTimes.j1 kj5 a0 a1 t627 t628 t629 false (t629 != 3))) = some r := by rw [if_pos rfl] at H; exact H
                  clear H
                  have H := H1
                  clear H1
                  by_cases c35 : t629 = 2
                  · rw [if_pos c35] at H
                    have c35b0 : (t629 == 2) = true := beq_iff_eq.mpr c35
                    have c35b1 : (t629 != 2) = false := bne_eq_false_iff_eq.mpr c35
                    clear c35
                    have H' := Aside0.mk H
                    clear H
                    go_wp2_with (first | (go_at_call 15; (with_reducible refine (fsm_Timed.calls a0 true _ A33.out).mono ?_); rintro e w' ⟨rfl, ⟨nd, rfl⟩⟩))
                    go_meet
                    case rel => exact ⟨_, (false), (by first | rfl | (simp; done) | (simp [*]; done)), H', ⟨by have := HJ5.out; first | omega | exact Nat.le_refl _⟩, ⟨by (with_reducible repeat (first | apply Kd.R_alloc | apply Kd.R_drewN | apply Kd.R_drew)); exact HO_6.out⟩, ⟨by repeat (first | (with_reducible first | exact HB.out | apply pA | apply pN | apply pD) | exact HB.out)⟩⟩
                  · rw [if_neg c35] at H
                    have c35b0 : (t629 == 2) = false := beq_eq_false_iff_ne.mpr c35
                    have c35b1 : (t629 != 2) = true := bne_iff_ne.mpr c35
                    have H' := Aside0.mk H
                    clear H
                    go_wp2_with (first | (go_at_call 15; (with_reducible refine (fsm_Timed.calls a0 true _ A33.out).mono ?_); rintro e w' ⟨rfl, ⟨nd, rfl⟩⟩))
                    go_meet
                    case rel => exact ⟨_, ((t629 != 3)), (by first | rfl | (simp; done) | (simp [*]; done)), H', ⟨by have := HJ5.out; first | omega | exact Nat.le_refl _⟩, ⟨by (with_reducible repeat (first | apply Kd.R_alloc | apply Kd.R_drewN | apply Kd.R_drew)); exact HO_6.out⟩, ⟨by repeat (first | (with_reducible first | exact HB.out | apply pA | apply pN | apply pD) | exact HB.out)⟩⟩
                · replace c34 := Bool.eq_false_iff.mpr c34
                  subst c34
                  have H1 : (portreevelaw11_FsmTimes.j1 kj5 a0 a1 t627 t628 t629 false true) = some r := by rw [if_neg (show ¬ (false = true) by decide)] at H; exact H
                  clear H
                  have H := H1
                  clear H1
                  have H' := Aside0.mk H
                  clear H
                  go_wp2_with (first | (go_at_call 15; (with_reducible refine (fsm_Timed.calls a0 false _ A33.out).mono ?_); rintro e w' ⟨rfl, ⟨nd, rfl⟩⟩))
                  go_meet
                  case rel => exact ⟨_, (true), (by first | rfl | (simp; done) | (simp [*]; done)), H', ⟨by have := HJ5.out; first | omega | exact Nat.le_refl _⟩, ⟨by (with_reducible repeat (first | apply Kd.R_alloc | apply Kd.R_drewN | apply Kd.R_drew)); exact HO_6.out⟩, ⟨by repeat (first | (with_reducible first | exact HB.out | apply pA | apply pN | apply pD) | exact HB.out)⟩⟩
              · rw [if_neg c32] at H
                have c32b0 : (a1 == 5) = false := beq_eq_false_iff_ne.mpr c32
                have c32b1 : (a1 != 5) = true := bne_iff_ne.mpr c32
                have H' := Aside0.mk H
                clear H
                go_wp2
                go_meet
                case rel => exact ⟨_, (false), (by first | rfl | (simp; done) | (simp [*]; done)), H', ⟨by have := HJ5.out; first | omega | exact Nat.le_refl _⟩, ⟨by (with_reducible repeat (first | apply Kd.R_alloc | apply Kd.R_drewN | apply Kd.R_drew)); exact HO_6.out⟩, ⟨by repeat (first | (with_reducible first | exact HB.out | apply pA | apply pN | apply pD) | exact HB.out)⟩⟩
        case rest =>
          clear HC14
          try clear c1
          try clear c2
          try clear p2
          try clear c3
          try clear c5
          try clear c6
          try clear c10
          try clear c11
          try clear c12
          try clear c15
          try clear c17
          try clear c18
          try clear c18b0
          try clear c18b1
          try clear c19
          try clear c20
          try clear c21
          try clear c21b0
          try clear c21b1
          try clear c22
          try clear c22b0
          try clear c22b1
          try clear c23
          try clear c23b0
          try clear c23b1
          try clear c25
          try clear c26
          try clear c26b0
          try clear c26b1
          try clear c27
          try clear c27b0
          try clear c27b1
          try clear c29
          try clear c30
          try clear c30b0
          try clear c30b1
          try clear c31
          try clear c31b0
          try clear c31b1
          try clear c32
          try clear c32b0
          try clear c32b1
          try clear c34
          try clear c35
          try clear c35b0
          try clear c35b1
          try clear p2
          obtain ⟨kq, x70_13, rfl, HA, HJ13, HO_6, HB⟩ := hcut
          cases kq with
          | zero => exact absurd HA.out (by simp [portreevelaw11_FsmTimes.j1])
          | succ kj13 =>
            have H := HA.out
            clear HA
            simp only [portreevelaw11_FsmTimes.j1] at H
            by_cases c36 : x70_13 = true
            · subst c36
              have H1 : (some false) = some r := by rw [if_pos rfl] at H; exact H
              clear H
              have H := H1
              clear H1
              exact absurd ((Option.some.inj H).trans hlaw_.out) (by decide)
            · replace c36 := Bool.eq_false_iff.mpr c36
              subst c36
              have H1 : (if t627 = true then ((fsm_Timed.f t629).bind fun t642 => (if t642 = true then ((fsm_Timed.f a0).bind fun t643 => (if t643 = true then (if a1 = 4 then (some x9_5) else (some true)) else (if x9_5 = true then (if a1 = 4 then (some x9_5) else (some true)) else ((portreeveref11_Has.f kj13 t628 6).bind fun t644 => (if t644 = true then (if a1 = 4 then (some x9_5) else (some true)) else (some false)))))) else (if a1 = 4 then (some x9_5) else (some true)))) else (some false)) = some r := by rw [if_neg (show ¬ (false = true) by decide)] at H; exact H
              clear H
              have H := H1
              clear H1
              by_cases c37 : t627 = true
              · subst c37
                have H1 : ((fsm_Timed.f t629).bind fun t642 => (if t642 = true then ((fsm_Timed.f a0).bind fun t643 => (if t643 = true then (if a1 = 4 then (some x9_5) else (some true)) else (if x9_5 = true then (if a1 = 4 then (some x9_5) else (some true)) else ((portreeveref11_Has.f kj13 t628 6).bind fun t644 => (if t644 = true then (if a1 = 4 then (some x9_5) else (some true)) else (some false)))))) else (if a1 = 4 then (some x9_5) else (some true)))) = some r := by rw [if_pos rfl] at H; exact H
                clear H
                have H := H1
                clear H1
                replace H := Option.bind_eq_some_iff.mp H
                obtain ⟨t642, A380, H⟩ := H
                replace H : (if t642 = true then ((fsm_Timed.f a0).bind fun t643 => (if t643 = true then (if a1 = 4 then (some x9_5) else (some true)) else (if x9_5 = true then (if a1 = 4 then (some x9_5) else (some true)) else ((portreeveref11_Has.f kj13 t628 6).bind fun t644 => (if t644 = true then (if a1 = 4 then (some x9_5) else (some true)) else (some false)))))) else (if a1 = 4 then (some x9_5) else (some true))) = some r := H
                have A38 := Aside0.mk A380
                clear A380
                by_cases c39 : t642 = true
                · subst c39
                  have H1 : ((fsm_Timed.f a0).bind fun t643 => (if t643 = true then (if a1 = 4 then (some x9_5) else (some true)) else (if x9_5 = true then (if a1 = 4 then (some x9_5) else (some true)) else ((portreeveref11_Has.f kj13 t628 6).bind fun t644 => (if t644 = true then (if a1 = 4 then (some x9_5) else (some true)) else (some false)))))) = some r := by rw [if_pos rfl] at H; exact H
                  clear H
                  have H := H1
                  clear H1
                  replace H := Option.bind_eq_some_iff.mp H
                  obtain ⟨t643, A400, H⟩ := H
                  replace H : (if t643 = true then (if a1 = 4 then (some x9_5) else (some true)) else (if x9_5 = true then (if a1 = 4 then (some x9_5) else (some true)) else ((portreeveref11_Has.f kj13 t628 6).bind fun t644 => (if t644 = true then (if a1 = 4 then (some x9_5) else (some true)) else (some false))))) = some r := H
                  have A40 := Aside0.mk A400
                  clear A400
                  by_cases c41 : t643 = true
                  · subst c41
                    have H1 : (if a1 = 4 then (some x9_5) else (some true)) = some r := by rw [if_pos rfl] at H; exact H
                    clear H
                    have H := H1
                    clear H1
                    by_cases c42 : a1 = 4
                    · rw [if_pos c42] at H
                      have c42b0 : (a1 == 4) = true := beq_iff_eq.mpr c42
                      have c42b1 : (a1 != 4) = false := bne_eq_false_iff_eq.mpr c42
                      clear c42
                      clear hlaw_
                      obtain rfl := Option.some.inj H
                      go_wp2_with (first | (go_at_call 15; (with_reducible refine (fsm_Timed.calls t629 true _ A38.out).mono ?_); rintro e w' ⟨rfl, ⟨nd, rfl⟩⟩) | (go_at_call 15; (with_reducible refine (fsm_Timed.calls a0 true _ A40.out).mono ?_); rintro e w' ⟨rfl, ⟨nd, rfl⟩⟩))
                      go_ret
                      exact ⟨by first | rfl | (simp [errW_none, errW_some] <;> rfl) | (simp [*, errW_none, errW_some] <;> rfl), by repeat (first | (with_reducible first | exact HB.out | apply pA | apply pN | apply pD) | exact HB.out)⟩
                    · rw [if_neg c42] at H
                      have c42b0 : (a1 == 4) = false := beq_eq_false_iff_ne.mpr c42
                      have c42b1 : (a1 != 4) = true := bne_iff_ne.mpr c42
                      clear hlaw_
                      obtain rfl := Option.some.inj H
                      go_wp2_with (first | (go_at_call 15; (with_reducible refine (fsm_Timed.calls t629 true _ A38.out).mono ?_); rintro e w' ⟨rfl, ⟨nd, rfl⟩⟩) | (go_at_call 15; (with_reducible refine (fsm_Timed.calls a0 true _ A40.out).mono ?_); rintro e w' ⟨rfl, ⟨nd, rfl⟩⟩))
                      go_ret
                      exact ⟨by first | rfl | (simp [errW_none, errW_some] <;> rfl) | (simp [*, errW_none, errW_some] <;> rfl), by repeat (first | (with_reducible first | exact HB.out | apply pA | apply pN | apply pD) | exact HB.out)⟩
                  · replace c41 := Bool.eq_false_iff.mpr c41
                    subst c41
                    have H1 : (if x9_5 = true then (if a1 = 4 then (some x9_5) else (some true)) else ((portreeveref11_Has.f kj13 t628 6).bind fun t644 => (if t644 = true then (if a1 = 4 then (some x9_5) else (some true)) else (some false)))) = some r := by rw [if_neg (show ¬ (false = true) by decide)] at H; exact H
                    clear H
                    have H := H1
                    clear H1
                    by_cases c43 : x9_5 = true
                    · subst c43
                      have H1 : (if a1 = 4 then (some true) else (some true)) = some r := by rw [if_pos rfl] at H; exact H
                      clear H
                      have H := H1
                      clear H1
                      by_cases c44 : a1 = 4
                      · rw [if_pos c44] at H
                        have c44b0 : (a1 == 4) = true := beq_iff_eq.mpr c44
                        have c44b1 : (a1 != 4) = false := bne_eq_false_iff_eq.mpr c44
                        clear c44
                        clear hlaw_
                        obtain rfl := Option.some.inj H
                        go_wp2_with (first | (go_at_call 15; (with_reducible refine (fsm_Timed.calls t629 true _ A38.out).mono ?_); rintro e w' ⟨rfl, ⟨nd, rfl⟩⟩) | (go_at_call 15; (with_reducible refine (fsm_Timed.calls a0 false _ A40.out).mono ?_); rintro e w' ⟨rfl, ⟨nd, rfl⟩⟩))
                        go_ret
                        exact ⟨by first | rfl | (simp [errW_none, errW_some] <;> rfl) | (simp [*, errW_none, errW_some] <;> rfl), by repeat (first | (with_reducible first | exact HB.out | apply pA | apply pN | apply pD) | exact HB.out)⟩
                      · rw [if_neg c44] at H
                        have c44b0 : (a1 == 4) = false := beq_eq_false_iff_ne.mpr c44
                        have c44b1 : (a1 != 4) = true := bne_iff_ne.mpr c44
                        clear hlaw_
                        obtain rfl := Option.some.inj H
                        go_wp2_with (first | (go_at_call 15; (with_reducible refine (fsm_Timed.calls t629 true _ A38.out).mono ?_); rintro e w' ⟨rfl, ⟨nd, rfl⟩⟩) | (go_at_call 15; (with_reducible refine (fsm_Timed.calls a0 false _ A40.out).mono ?_); rintro e w' ⟨rfl, ⟨nd, rfl⟩⟩))
                        go_ret
                        exact ⟨by first | rfl | (simp [errW_none, errW_some] <;> rfl) | (simp [*, errW_none, errW_some] <;> rfl), by repeat (first | (with_reducible first | exact HB.out | apply pA | apply pN | apply pD) | exact HB.out)⟩
                    · replace c43 := Bool.eq_false_iff.mpr c43
                      subst c43
                      have H1 : ((portreeveref11_Has.f kj13 t628 6).bind fun t644 => (if t644 = true then (if a1 = 4 then (some false) else (some true)) else (some false))) = some r := by rw [if_neg (show ¬ (false = true) by decide)] at H; exact H
                      clear H
                      have H := H1
                      clear H1
                      replace H := Option.bind_eq_some_iff.mp H
                      obtain ⟨t644, A450, H⟩ := H
                      replace H : (if t644 = true then (if a1 = 4 then (some false) else (some true)) else (some false)) = some r := H
                      have A45 := Aside0.mk A450
                      clear A450
                      by_cases c46 : t644 = true
                      · subst c46
                        have H1 : (if a1 = 4 then (some false) else (some true)) = some r := by rw [if_pos rfl] at H; exact H
                        clear H
                        have H := H1
                        clear H1
                        by_cases c47 : a1 = 4
                        · rw [if_pos c47] at H
                          have c47b0 : (a1 == 4) = true := beq_iff_eq.mpr c47
                          have c47b1 : (a1 != 4) = false := bne_eq_false_iff_eq.mpr c47
                          clear c47
                          exact absurd ((Option.some.inj H).trans hlaw_.out) (by decide)
                        · rw [if_neg c47] at H
                          have c47b0 : (a1 == 4) = false := beq_eq_false_iff_ne.mpr c47
                          have c47b1 : (a1 != 4) = true := bne_iff_ne.mpr c47
                          clear hlaw_
                          obtain rfl := Option.some.inj H
                          go_wp2_with (first | (go_at_call 15; (with_reducible refine (fsm_Timed.calls t629 true _ A38.out).mono ?_); rintro e w' ⟨rfl, ⟨nd, rfl⟩⟩) | (go_at_call 15; (with_reducible refine (fsm_Timed.calls a0 false _ A40.out).mono ?_); rintro e w' ⟨rfl, ⟨nd, rfl⟩⟩; obtain ⟨Ao48, co48, eo48⟩ := Kd.R_slice HO_6.out; subst eo48) | (go_at_call 19; (with_reducible refine (portreeveref11_Has.calls kj13 _ _ t628 6 true _ ?side1 ?side2 A45.out).mono ?_); (case side1 => repeat (first | exact (Kd.R_reads' HO_6.out).2.2 | (with_reducible refine Kd.C_alloc ?_ _) | (with_reducible refine Kd.C_drewN ?_ _) | (with_reducible refine Kd.C_drew ?_))); (case side2 => exact (Kd.R_reads' HO_6.out).2.1); rintro e w' ⟨rfl, ⟨nd, rfl⟩⟩))
                          go_ret
                          exact ⟨by first | rfl | (simp [errW_none, errW_some] <;> rfl) | (simp [*, errW_none, errW_some] <;> rfl), by repeat (first | (with_reducible first | exact HB.out | apply pA | apply pN | apply pD) | exact HB.out)⟩
                      · replace c46 := Bool.eq_false_iff.mpr c46
                        subst c46
                        have H1 : (some false) = some r := by rw [if_neg (show ¬ (false = true) by decide)] at H; exact H
                        clear H
                        have H := H1
                        clear H1
                        exact absurd ((Option.some.inj H).trans hlaw_.out) (by decide)
                · replace c39 := Bool.eq_false_iff.mpr c39
                  subst c39
                  have H1 : (if a1 = 4 then (some x9_5) else (some true)) = some r := by rw [if_neg (show ¬ (false = true) by decide)] at H; exact H
                  clear H
                  have H := H1
                  clear H1
                  by_cases c49 : a1 = 4
                  · rw [if_pos c49] at H
                    have c49b0 : (a1 == 4) = true := beq_iff_eq.mpr c49
                    have c49b1 : (a1 != 4) = false := bne_eq_false_iff_eq.mpr c49
                    clear c49
                    clear hlaw_
                    obtain rfl := Option.some.inj H
                    go_wp2_with (first | (go_at_call 15; (with_reducible refine (fsm_Timed.calls t629 false _ A38.out).mono ?_); rintro e w' ⟨rfl, ⟨nd, rfl⟩⟩))
                    go_ret
                    exact ⟨by first | rfl | (simp [errW_none, errW_some] <;> rfl) | (simp [*, errW_none, errW_some] <;> rfl), by repeat (first | (with_reducible first | exact HB.out | apply pA | apply pN | apply pD) | exact HB.out)⟩
                  · rw [if_neg c49] at H
                    have c49b0 : (a1 == 4) = false := beq_eq_false_iff_ne.mpr c49
                    have c49b1 : (a1 != 4) = true := bne_iff_ne.mpr c49
                    clear hlaw_
                    obtain rfl := Option.some.inj H
                    go_wp2_with (first | (go_at_call 15; (with_reducible refine (fsm_Timed.calls t629 false _ A38.out).mono ?_); rintro e w' ⟨rfl, ⟨nd, rfl⟩⟩))
                    go_ret
                    exact ⟨by first | rfl | (simp [errW_none, errW_some] <;> rfl) | (simp [*, errW_none, errW_some] <;> rfl), by repeat (first | (with_reducible first | exact HB.out | apply pA | apply pN | apply pD) | exact HB.out)⟩
              · replace c37 := Bool.eq_false_iff.mpr c37
                subst c37
                have H1 : (some false) = some r := by rw [if_neg (show ¬ (false = true) by decide)] at H; exact H
                clear H
                have H := H1
                clear H1
                exact absurd ((Option.some.inj H).trans hlaw_.out) (by decide)
  · replace c5 := Bool.eq_false_iff.mpr c5
    subst c5
    have H1 : (if t627 = true then (if a1 = 4 then ((fsm_Timed.f a0).bind fun t633 => (some (!t633))) else (if a1 = 5 then ((fsm_Timed.f a0).bind fun t634 => (some (!t634))) else (some true))) else (some false)) = some r := by rw [if_neg (show ¬ (false = true) by decide)] at H; exact H
    clear H
    have H := H1
    clear H1
    by_cases c50 : t627 = true
    · subst c50
      have H1 : (if a1 = 4 then ((fsm_Timed.f a0).bind fun t633 => (some (!t633))) else (if a1 = 5 then ((fsm_Timed.f a0).bind fun t634 => (some (!t634))) else (some true))) = some r := by rw [if_pos rfl] at H; exact H
      clear H
      have H := H1
      clear H1
      by_cases c51 : a1 = 4
      · rw [if_pos c51] at H
        have c51b0 : (a1 == 4) = true := beq_iff_eq.mpr c51
        have c51b1 : (a1 != 4) = false := bne_eq_false_iff_eq.mpr c51
        clear c51
        replace H := Option.bind_eq_some_iff.mp H
        obtain ⟨t633, A520, H⟩ := H
        replace H : (some (!t633)) = some r := H
        have A52 := Aside0.mk A520
        clear A520
        clear hlaw_
        obtain rfl := Option.some.inj H
        go_enter Tryd.func6, Tryd.ntmps6
        go_wp2_with (first | ((with_reducible refine gate_callee (f := 11) rfl ?_); refine goesL_ (some 10) rfl rfl Tryd.func11 (by kernel_rfl) rfl #[] rfl (by (try simp only [List.map_toArray, List.map_cons, List.map_nil]); first | done | rfl | (simp only [List.length_drop, List.length_take]; rfl)) ?_; (with_reducible refine (portreevelaw11_shown.calls  true _ ?side1 A3.out).mono ?_); (case side1 => exact (HGL.out.below (by repeat (first | (with_reducible first | exact HB.out | apply pA | apply pN | apply pD) | exact HB.out)))); rintro e w53 ⟨rfl, hb⟩; refine ⟨_, rfl, ?_⟩; have n0_ := Aside0.mk (below_step (by repeat (first | (with_reducible first | exact HB.out | apply pA | apply pN | apply pD) | exact HB.out)) hb); clear HB; have HB := n0_; clear n0_; (try clear hb); (try clear hb2); (try clear hk); (try clear hi)) | ((with_reducible refine gate_callee (f := 12) rfl ?_); refine goesL_ (some 14) rfl rfl Tryd.func12 (by kernel_rfl) rfl #[.int .i64 a0, .int .i64 a1] rfl (by (try simp only [List.map_toArray, List.map_cons, List.map_nil]); first | done | rfl | (simp only [List.length_drop, List.length_take]; rfl)) ?_; (with_reducible refine (fsm_Next.calls a0 a1 t628 t629 false _ ?side1 A4.out).mono ?_); (case side1 => exact (HGL.out.below (by repeat (first | (with_reducible first | exact HB.out | apply pA | apply pN | apply pD) | exact HB.out)))); rintro e w54 ⟨v631, rfl, ho0, hb⟩; refine ⟨_, rfl, ?_⟩; have n0_ := Aside0.mk (Kd.R_lower ho0 (below_size (by repeat (first | (with_reducible first | exact HB.out | apply pA | apply pN | apply pD) | exact HB.out)))); have n1_ := Aside0.mk (below_step (by repeat (first | (with_reducible first | exact HB.out | apply pA | apply pN | apply pD) | exact HB.out)) hb); clear HB; have HO632 := n0_; have HB := n1_; clear n0_ n1_; (try clear hb); (try clear hb2); (try clear hk); (try clear hi); (try clear ho0)) | (go_at_call 15; (with_reducible refine (fsm_Timed.calls a0 t633 _ A52.out).mono ?_); rintro e w' ⟨rfl, ⟨nd, rfl⟩⟩))
        go_ret
        exact ⟨by first | rfl | (simp [errW_none, errW_some] <;> rfl) | (simp [*, errW_none, errW_some] <;> rfl), by repeat (first | (with_reducible first | exact HB.out | apply pA | apply pN | apply pD) | exact HB.out)⟩
      · rw [if_neg c51] at H
        have c51b0 : (a1 == 4) = false := beq_eq_false_iff_ne.mpr c51
        have c51b1 : (a1 != 4) = true := bne_iff_ne.mpr c51
        by_cases c55 : a1 = 5
        · rw [if_pos c55] at H
          have c55b0 : (a1 == 5) = true := beq_iff_eq.mpr c55
          have c55b1 : (a1 != 5) = false := bne_eq_false_iff_eq.mpr c55
          clear c55
          replace H := Option.bind_eq_some_iff.mp H
          obtain ⟨t634, A560, H⟩ := H
          replace H : (some (!t634)) = some r := H
          have A56 := Aside0.mk A560
          clear A560
          clear hlaw_
          obtain rfl := Option.some.inj H
          go_enter Tryd.func6, Tryd.ntmps6
          go_wp2_with (first | ((with_reducible refine gate_callee (f := 11) rfl ?_); refine goesL_ (some 10) rfl rfl Tryd.func11 (by kernel_rfl) rfl #[] rfl (by (try simp only [List.map_toArray, List.map_cons, List.map_nil]); first | done | rfl | (simp only [List.length_drop, List.length_take]; rfl)) ?_; (with_reducible refine (portreevelaw11_shown.calls  true _ ?side1 A3.out).mono ?_); (case side1 => exact (HGL.out.below (by repeat (first | (with_reducible first | exact HB.out | apply pA | apply pN | apply pD) | exact HB.out)))); rintro e w57 ⟨rfl, hb⟩; refine ⟨_, rfl, ?_⟩; have n0_ := Aside0.mk (below_step (by repeat (first | (with_reducible first | exact HB.out | apply pA | apply pN | apply pD) | exact HB.out)) hb); clear HB; have HB := n0_; clear n0_; (try clear hb); (try clear hb2); (try clear hk); (try clear hi)) | ((with_reducible refine gate_callee (f := 12) rfl ?_); refine goesL_ (some 14) rfl rfl Tryd.func12 (by kernel_rfl) rfl #[.int .i64 a0, .int .i64 a1] rfl (by (try simp only [List.map_toArray, List.map_cons, List.map_nil]); first | done | rfl | (simp only [List.length_drop, List.length_take]; rfl)) ?_; (with_reducible refine (fsm_Next.calls a0 a1 t628 t629 false _ ?side1 A4.out).mono ?_); (case side1 => exact (HGL.out.below (by repeat (first | (with_reducible first | exact HB.out | apply pA | apply pN | apply pD) | exact HB.out)))); rintro e w58 ⟨v631, rfl, ho0, hb⟩; refine ⟨_, rfl, ?_⟩; have n0_ := Aside0.mk (Kd.R_lower ho0 (below_size (by repeat (first | (with_reducible first | exact HB.out | apply pA | apply pN | apply pD) | exact HB.out)))); have n1_ := Aside0.mk (below_step (by repeat (first | (with_reducible first | exact HB.out | apply pA | apply pN | apply pD) | exact HB.out)) hb); clear HB; have HO632 := n0_; have HB := n1_; clear n0_ n1_; (try clear hb); (try clear hb2); (try clear hk); (try clear hi); (try clear ho0)) | (go_at_call 15; (with_reducible refine (fsm_Timed.calls a0 t634 _ A56.out).mono ?_); rintro e w' ⟨rfl, ⟨nd, rfl⟩⟩))
          go_ret
          exact ⟨by first | rfl | (simp [errW_none, errW_some] <;> rfl) | (simp [*, errW_none, errW_some] <;> rfl), by repeat (first | (with_reducible first | exact HB.out | apply pA | apply pN | apply pD) | exact HB.out)⟩
        · rw [if_neg c55] at H
          have c55b0 : (a1 == 5) = false := beq_eq_false_iff_ne.mpr c55
          have c55b1 : (a1 != 5) = true := bne_iff_ne.mpr c55
          clear hlaw_
          obtain rfl := Option.some.inj H
          go_enter Tryd.func6, Tryd.ntmps6
          go_wp2_with (first | ((with_reducible refine gate_callee (f := 11) rfl ?_); refine goesL_ (some 10) rfl rfl Tryd.func11 (by kernel_rfl) rfl #[] rfl (by (try simp only [List.map_toArray, List.map_cons, List.map_nil]); first | done | rfl | (simp only [List.length_drop, List.length_take]; rfl)) ?_; (with_reducible refine (portreevelaw11_shown.calls  true _ ?side1 A3.out).mono ?_); (case side1 => exact (HGL.out.below (by repeat (first | (with_reducible first | exact HB.out | apply pA | apply pN | apply pD) | exact HB.out)))); rintro e w59 ⟨rfl, hb⟩; refine ⟨_, rfl, ?_⟩; have n0_ := Aside0.mk (below_step (by repeat (first | (with_reducible first | exact HB.out | apply pA | apply pN | apply pD) | exact HB.out)) hb); clear HB; have HB := n0_; clear n0_; (try clear hb); (try clear hb2); (try clear hk); (try clear hi)) | ((with_reducible refine gate_callee (f := 12) rfl ?_); refine goesL_ (some 14) rfl rfl Tryd.func12 (by kernel_rfl) rfl #[.int .i64 a0, .int .i64 a1] rfl (by (try simp only [List.map_toArray, List.map_cons, List.map_nil]); first | done | rfl | (simp only [List.length_drop, List.length_take]; rfl)) ?_; (with_reducible refine (fsm_Next.calls a0 a1 t628 t629 false _ ?side1 A4.out).mono ?_); (case side1 => exact (HGL.out.below (by repeat (first | (with_reducible first | exact HB.out | apply pA | apply pN | apply pD) | exact HB.out)))); rintro e w60 ⟨v631, rfl, ho0, hb⟩; refine ⟨_, rfl, ?_⟩; have n0_ := Aside0.mk (Kd.R_lower ho0 (below_size (by repeat (first | (with_reducible first | exact HB.out | apply pA | apply pN | apply pD) | exact HB.out)))); have n1_ := Aside0.mk (below_step (by repeat (first | (with_reducible first | exact HB.out | apply pA | apply pN | apply pD) | exact HB.out)) hb); clear HB; have HO632 := n0_; have HB := n1_; clear n0_ n1_; (try clear hb); (try clear hb2); (try clear hk); (try clear hi); (try clear ho0)))
          go_ret
          exact ⟨by first | rfl | (simp [errW_none, errW_some] <;> rfl) | (simp [*, errW_none, errW_some] <;> rfl), by repeat (first | (with_reducible first | exact HB.out | apply pA | apply pN | apply pD) | exact HB.out)⟩
    · replace c50 := Bool.eq_false_iff.mpr c50
      subst c50
      have H1 : (some false) = some r := by rw [if_neg (show ¬ (false = true) by decide)] at H; exact H
      clear H
      have H := H1
      clear H1
      exact absurd ((Option.some.inj H).trans hlaw_.out) (by decide)

end Go.Proofs.YtdjicabmofbidaaDoor.Q

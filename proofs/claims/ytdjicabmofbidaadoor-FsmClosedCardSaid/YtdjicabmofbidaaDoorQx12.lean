-- written by this session's own program (wip/tools/myprint.py), over the kit's print
import Derived.Test.YtdjicabmofbidaaDoorQx0
import Derived.Test.YtdjicabmofbidaaDoorQx2
import Derived.Test.YtdjicabmofbidaaDoorQx3
import Derived.Test.YtdjicabmofbidaaDoorQx4
import Derived.Test.YtdjicabmofbidaaDoorQx5
import Derived.Test.YtdjicabmofbidaaDoorQx9
namespace Go.Proofs.YtdjicabmofbidaaDoor.Q
open Go.RowKit Go.Proofs.YtdjicabmofbidaaDoorW.PrintWords Go.Proofs.YtdjicabmofbidaaDoorW.PrintLast Go.Proofs.YtdjicabmofbidaaDoorW.PrintMore
open Go.Proofs.YtdjicabmofbidaaDoorV Go.Proofs.YtdjicabmofbidaaDoorG
attribute [local go_sem] max2_int min2_int max_two min_two max_three min_three max_four min_four   -- for this text's walks alone
set_option linter.unusedVariables false
set_option linter.unusedSimpArgs false

/-! ### portreevelaw11_FsmNames: function 7 -/
mutual
def portreevelaw11_FsmNames.j0 : Nat → Int → Int → Bool → Bool → Option (Bool)
  | 0, _, _, _, _ => none
  | k + 1, x0, x1, x5, x6 => if x1 ≥ 0 then (portreevelaw11_FsmNames.j1 k x0 x1 x5 x6 (decide (x1 < 10))) else (portreevelaw11_FsmNames.j1 k x0 x1 x5 x6 false)
def portreevelaw11_FsmNames.j1 : Nat → Int → Int → Bool → Bool → Bool → Option (Bool)
  | 0, _, _, _, _, _ => none
  | k + 1, x0, x1, x5, x6, x7 => if x5 = true then ((fsm_Name.f x0).bind fun t646 => (if ((t646.toList != ([] : List UInt8)) == x6) = true then (if x6 = true then (if x7 = true then ((fsm_Name.f x0).bind fun t647 => ((fsm_Name.f x1).bind fun t648 => (if ((t647.toList == t648.toList) == (x0 == x1)) = true then ((fsm_Timed.f x0).bind fun t649 => (if t649 = true then (some x6) else (some true))) else (some false)))) else ((fsm_Timed.f x0).bind fun t650 => (if t650 = true then (some x6) else (some true)))) else ((fsm_Timed.f x0).bind fun t651 => (if t651 = true then (some x6) else (some true)))) else (some false))) else (some false)
end
def portreevelaw11_FsmNames.f (k : Nat) (a0 : Int) (a1 : Int) : Option (Bool) := (portreevelaw11_shown.f).bind fun t645 => (if a0 ≥ 0 then (portreevelaw11_FsmNames.j0 k a0 a1 t645 (decide (a0 < 10))) else (portreevelaw11_FsmNames.j0 k a0 a1 t645 false))
theorem portreevelaw11_FsmNames.mono_l : ∀ k, (∀ y0 y1 y2 y3, LeO (portreevelaw11_FsmNames.j0 k y0 y1 y2 y3) (portreevelaw11_FsmNames.j0 (k + 1) y0 y1 y2 y3)) ∧ (∀ y0 y1 y2 y3 y4, LeO (portreevelaw11_FsmNames.j1 k y0 y1 y2 y3 y4) (portreevelaw11_FsmNames.j1 (k + 1) y0 y1 y2 y3 y4))
  | 0 => ⟨fun _ _ _ _ r h => by simp [portreevelaw11_FsmNames.j0] at h, fun _ _ _ _ _ r h => by simp [portreevelaw11_FsmNames.j1] at h⟩
  | k + 1 => by
    obtain ⟨ih0, ih1⟩ := portreevelaw11_FsmNames.mono_l k
    refine ⟨?_, ?_⟩
    · intro y0 y1 y2 y3
      unfold portreevelaw11_FsmNames.j0
      repeat' first
      | (with_reducible exact ih0 _ _ _ _)
      | (with_reducible exact ih1 _ _ _ _ _)
      | (with_reducible exact LeO.refl _)
      | (with_reducible exact LeO.none _)
      | (with_reducible refine LeO.ite ?_ ?_)
      | (with_reducible refine LeO.bind ?_ (fun _ => ?_))
      | exact ih0 _ _ _ _
      | exact ih1 _ _ _ _ _
      | exact LeO.none _
      | refine LeO.ite ?_ ?_
      | refine LeO.bind ?_ (fun _ => ?_)
    · intro y0 y1 y2 y3 y4
      unfold portreevelaw11_FsmNames.j1
      repeat' first
      | (with_reducible exact ih0 _ _ _ _)
      | (with_reducible exact ih1 _ _ _ _ _)
      | (with_reducible exact LeO.refl _)
      | (with_reducible exact LeO.none _)
      | (with_reducible refine LeO.ite ?_ ?_)
      | (with_reducible refine LeO.bind ?_ (fun _ => ?_))
      | exact ih0 _ _ _ _
      | exact ih1 _ _ _ _ _
      | exact LeO.none _
      | refine LeO.ite ?_ ?_
      | refine LeO.bind ?_ (fun _ => ?_)
theorem portreevelaw11_FsmNames.mono : ∀ a0 a1 k, LeO (portreevelaw11_FsmNames.f k a0 a1) (portreevelaw11_FsmNames.f (k + 1) a0 a1) := by
  intro a0 a1 k
  obtain ⟨ih0, ih1⟩ := portreevelaw11_FsmNames.mono_l k
  unfold portreevelaw11_FsmNames.f
  repeat' first
      | (with_reducible exact ih0 _ _ _ _)
      | (with_reducible exact ih1 _ _ _ _ _)
      | (with_reducible exact LeO.refl _)
      | (with_reducible exact LeO.none _)
      | (with_reducible refine LeO.ite ?_ ?_)
      | (with_reducible refine LeO.bind ?_ (fun _ => ?_))
      | exact ih0 _ _ _ _
      | exact ih1 _ _ _ _ _
      | exact LeO.none _
      | refine LeO.ite ?_ ?_
      | refine LeO.bind ?_ (fun _ => ?_)
set_option maxHeartbeats 8000000 in
set_option maxRecDepth 100000 in
theorem portreevelaw11_FsmNames.calls (k : Nat) (a0 : Int) (a1 : Int) (r : Bool) (w : World) (hlaw_ : Aside0 (r = true)) (hgl : Gl w) (h : portreevelaw11_FsmNames.f k a0 a1 = some r) :
    Calls Tryd.prog 7 #[.int .i64 a0, .int .i64 a1] w fun e w' => e = .returned (.bool r) ∧ Below w.heap.size w w' := by
  have HB := Aside0.mk (Below.refl w.heap.size w)
  have HGL := Aside0.mk hgl
  clear hgl
  have H : ((portreevelaw11_shown.f).bind fun t645 => (if a0 ≥ 0 then (portreevelaw11_FsmNames.j0 k a0 a1 t645 (decide (a0 < 10))) else (portreevelaw11_FsmNames.j0 k a0 a1 t645 false))) = some r := h
  clear h
  replace H := Option.bind_eq_some_iff.mp H
  obtain ⟨t645, A30, H⟩ := H
  replace H : (if a0 ≥ 0 then (portreevelaw11_FsmNames.j0 k a0 a1 t645 (decide (a0 < 10))) else (portreevelaw11_FsmNames.j0 k a0 a1 t645 false)) = some r := H
  have A3 := Aside0.mk A30
  clear A30
  have HC4 := Aside0.mk H
  clear H
  go_enter Tryd.func7, Tryd.ntmps7
  go_upto_region 2 with (first | ((with_reducible refine gate_callee (f := 11) rfl ?_); refine goesL_ (some 8) rfl rfl Tryd.func11 (by kernel_rfl) rfl #[] rfl (by (try simp only [List.map_toArray, List.map_cons, List.map_nil]); first | done | rfl | (simp only [List.length_drop, List.length_take]; rfl)) ?_; (with_reducible refine (portreevelaw11_shown.calls  t645 _ ?side1 A3.out).mono ?_); (case side1 => exact (HGL.out.below (by repeat (first | (with_reducible first | exact HB.out | apply pA | apply pN | apply pD) | exact HB.out)))); rintro e w5 ⟨rfl, hb⟩; refine ⟨_, rfl, ?_⟩; have n0_ := Aside0.mk (below_step (by repeat (first | (with_reducible first | exact HB.out | apply pA | apply pN | apply pD) | exact HB.out)) hb); clear HB; have HB := n0_; clear n0_; (try clear hb); (try clear hb2); (try clear hk); (try clear hi)))
  (try simp only [Act.put, List.setIfInBounds_toArray, List.set_cons_zero, List.set_cons_succ])
  go_cut [6] (fun v6 wc => ∃ (kq : Nat) (x6_3 : Bool), v6 = .bool x6_3 ∧ Aside0 (portreevelaw11_FsmNames.j0 kq a0 a1 t645 x6_3 = some r) ∧ Aside0 (kq ≤ k) ∧ Aside0 (Below w.heap.size w wc))
  case first =>
    have H := HC4.out
    clear HC4
    by_cases c6 : a0 ≥ 0
    · rw [if_pos c6] at H
      have c6b0 : decide (0 ≤ a0) = true := decide_eq_true c6
      clear c6
      (first | rw [c6b0] | (simp only [i64_w, i32_w]; rw [c6b0]) | skip)
      have H' := Aside0.mk H
      clear H
      go_wp2
      go_meet
      case rel => exact ⟨_, (decide (a0 < 10)), (by first | rfl | (simp; done) | (simp [*]; done)), H', ⟨by first | omega | exact Nat.le_refl _⟩, ⟨by repeat (first | (with_reducible first | exact HB.out | apply pA | apply pN | apply pD) | exact HB.out)⟩⟩
    · rw [if_neg c6] at H
      have c6b0 : decide (0 ≤ a0) = false := decide_eq_false c6
      clear c6
      (first | rw [c6b0] | (simp only [i64_w, i32_w]; rw [c6b0]) | skip)
      have H' := Aside0.mk H
      clear H
      go_wp2
      go_meet
      case rel => exact ⟨_, (false), (by first | rfl | (simp; done) | (simp [*]; done)), H', ⟨by first | omega | exact Nat.le_refl _⟩, ⟨by repeat (first | (with_reducible first | exact HB.out | apply pA | apply pN | apply pD) | exact HB.out)⟩⟩
  case rest =>
    clear HC4
    try clear c1
    try clear p2
    try clear c6
    try clear c6b0
    obtain ⟨kq, x6_3, rfl, HA, HJ3, HB⟩ := hcut
    cases kq with
    | zero => exact absurd HA.out (by simp [portreevelaw11_FsmNames.j0])
    | succ kj3 =>
      have H := HA.out
      clear HA
      simp only [portreevelaw11_FsmNames.j0] at H
      have HC7 := Aside0.mk H
      clear H
      go_upto_region 3 with (fail)
      go_cut [7] (fun v7 wc => ∃ (kq : Nat) (x7_6 : Bool), v7 = .bool x7_6 ∧ Aside0 (portreevelaw11_FsmNames.j1 kq a0 a1 t645 x6_3 x7_6 = some r) ∧ Aside0 (kq ≤ kj3) ∧ Aside0 (Below w.heap.size w wc))
      case first =>
        have H := HC7.out
        clear HC7
        by_cases c8 : a1 ≥ 0
        · rw [if_pos c8] at H
          have c8b0 : decide (0 ≤ a1) = true := decide_eq_true c8
          clear c8
          (first | rw [c8b0] | (simp only [i64_w, i32_w]; rw [c8b0]) | skip)
          have H' := Aside0.mk H
          clear H
          go_wp2
          go_meet
          case rel => exact ⟨_, (decide (a1 < 10)), (by first | rfl | (simp; done) | (simp [*]; done)), H', ⟨by have := HJ3.out; first | omega | exact Nat.le_refl _⟩, ⟨by repeat (first | (with_reducible first | exact HB.out | apply pA | apply pN | apply pD) | exact HB.out)⟩⟩
        · rw [if_neg c8] at H
          have c8b0 : decide (0 ≤ a1) = false := decide_eq_false c8
          clear c8
          (first | rw [c8b0] | (simp only [i64_w, i32_w]; rw [c8b0]) | skip)
          have H' := Aside0.mk H
          clear H
          go_wp2
          go_meet
          case rel => exact ⟨_, (false), (by first | rfl | (simp; done) | (simp [*]; done)), H', ⟨by have := HJ3.out; first | omega | exact Nat.le_refl _⟩, ⟨by repeat (first | (with_reducible first | exact HB.out | apply pA | apply pN | apply pD) | exact HB.out)⟩⟩
      case rest =>
        clear HC7
        try clear c1
        try clear p2
        try clear c6
        try clear c6b0
        try clear c7
        try clear c8
        try clear c8b0
        try clear p2
        obtain ⟨kq, x7_6, rfl, HA, HJ6, HB⟩ := hcut
        cases kq with
        | zero => exact absurd HA.out (by simp [portreevelaw11_FsmNames.j1])
        | succ kj6 =>
          have H := HA.out
          clear HA
          simp only [portreevelaw11_FsmNames.j1] at H
          by_cases c9 : t645 = true
          · subst c9
            have H1 : ((fsm_Name.f a0).bind fun t646 => (if ((t646.toList != ([] : List UInt8)) == x6_3) = true then (if x6_3 = true then (if x7_6 = true then ((fsm_Name.f a0).bind fun t647 => ((fsm_Name.f a1).bind fun t648 => (if ((t647.toList == t648.toList) == (a0 == a1)) = true then ((fsm_Timed.f a0).bind fun t649 => (if t649 = true then (some x6_3) else (some true))) else (some false)))) else ((fsm_Timed.f a0).bind fun t650 => (if t650 = true then (some x6_3) else (some true)))) else ((fsm_Timed.f a0).bind fun t651 => (if t651 = true then (some x6_3) else (some true)))) else (some false))) = some r := by rw [if_pos rfl] at H; exact H
            clear H
            have H := H1
            clear H1
            replace H := Option.bind_eq_some_iff.mp H
            obtain ⟨t646, A100, H⟩ := H
            replace H : (if ((t646.toList != ([] : List UInt8)) == x6_3) = true then (if x6_3 = true then (if x7_6 = true then ((fsm_Name.f a0).bind fun t647 => ((fsm_Name.f a1).bind fun t648 => (if ((t647.toList == t648.toList) == (a0 == a1)) = true then ((fsm_Timed.f a0).bind fun t649 => (if t649 = true then (some x6_3) else (some true))) else (some false)))) else ((fsm_Timed.f a0).bind fun t650 => (if t650 = true then (some x6_3) else (some true)))) else ((fsm_Timed.f a0).bind fun t651 => (if t651 = true then (some x6_3) else (some true)))) else (some false)) = some r := H
            have A10 := Aside0.mk A100
            clear A100
            by_cases c11 : ((t646.toList != ([] : List UInt8)) == x6_3) = true
            · rw [if_pos c11] at H
              have c11b0 : ((t646.toList != ([] : List UInt8)) == x6_3) = true := c11
              (try (have c11b1 : decide ((t646.toList != ([] : List UInt8)) = x6_3) = true := by simpa using c11))
              (try (have c11b2 : ((t646.toList != ([] : List UInt8)) == x6_3) = true := by simpa using c11))
              clear c11
              by_cases c12 : x6_3 = true
              · subst c12
                have H1 : (if x7_6 = true then ((fsm_Name.f a0).bind fun t647 => ((fsm_Name.f a1).bind fun t648 => (if ((t647.toList == t648.toList) == (a0 == a1)) = true then ((fsm_Timed.f a0).bind fun t649 => (if t649 = true then (some true) else (some true))) else (some false)))) else ((fsm_Timed.f a0).bind fun t650 => (if t650 = true then (some true) else (some true)))) = some r := by rw [if_pos rfl] at H; exact H
                clear H
                have H := H1
                clear H1
                by_cases c13 : x7_6 = true
                · subst c13
                  have H1 : ((fsm_Name.f a0).bind fun t647 => ((fsm_Name.f a1).bind fun t648 => (if ((t647.toList == t648.toList) == (a0 == a1)) = true then ((fsm_Timed.f a0).bind fun t649 => (if t649 = true then (some true) else (some true))) else (some false)))) = some r := by rw [if_pos rfl] at H; exact H
                  clear H
                  have H := H1
                  clear H1
                  replace H := Option.bind_eq_some_iff.mp H
                  obtain ⟨t647, A140, H⟩ := H
                  replace H : ((fsm_Name.f a1).bind fun t648 => (if ((t647.toList == t648.toList) == (a0 == a1)) = true then ((fsm_Timed.f a0).bind fun t649 => (if t649 = true then (some true) else (some true))) else (some false))) = some r := H
                  have A14 := Aside0.mk A140
                  clear A140
                  replace H := Option.bind_eq_some_iff.mp H
                  obtain ⟨t648, A150, H⟩ := H
                  replace H : (if ((t647.toList == t648.toList) == (a0 == a1)) = true then ((fsm_Timed.f a0).bind fun t649 => (if t649 = true then (some true) else (some true))) else (some false)) = some r := H
                  have A15 := Aside0.mk A150
                  clear A150
                  by_cases c16 : ((t647.toList == t648.toList) == (a0 == a1)) = true
                  · rw [if_pos c16] at H
                    have c16b0 : ((t647.toList == t648.toList) == (a0 == a1)) = true := c16
                    (try (have c16b1 : decide ((t647.toList == t648.toList) = (a0 == a1)) = true := by simpa using c16))
                    (try (have c16b2 : ((t647.toList == t648.toList) == (a0 == a1)) = true := by simpa using c16))
                    clear c16
                    replace H := Option.bind_eq_some_iff.mp H
                    obtain ⟨t649, A170, H⟩ := H
                    replace H : (if t649 = true then (some true) else (some true)) = some r := H
                    have A17 := Aside0.mk A170
                    clear A170
                    by_cases c18 : t649 = true
                    · subst c18
                      have H1 : (some true) = some r := by rw [if_pos rfl] at H; exact H
                      clear H
                      have H := H1
                      clear H1
                      clear hlaw_
                      obtain rfl := Option.some.inj H
                      (try have cs1_ : t646.toList ≠ [] := by simpa using c11b0)
                      (try have cs2_ : t646.toList = [] := by simpa using c11b0)
                      (try have cs3_ : ((t646.toList == t648.toList) == (a0 == a1)) = true := by have e_ : t647 = t646 := Option.some.inj (A14.out.symm.trans A10.out); rw [← e_]; exact c16b0)
                      (try have cs4_ : decide ((t646.toList == t648.toList) = (a0 == a1)) = true := by simpa using cs3_)
                      go_wp2_with (first | (go_at_call 17; (with_reducible refine (fsm_Name.calls a0 t646 _ ?side1 A10.out).mono ?_); (case side1 => exact (HGL.out.below (by repeat (first | (with_reducible first | exact HB.out | apply pA | apply pN | apply pD) | exact HB.out)))); rintro e w19 ⟨rfl, hb⟩; have n0_ := Aside0.mk (below_step (by repeat (first | (with_reducible first | exact HB.out | apply pA | apply pN | apply pD) | exact HB.out)) hb); clear HB; have HB := n0_; clear n0_; (try clear hb); (try clear hb2); (try clear hk); (try clear hi)) | (go_at_call 17; (with_reducible refine (fsm_Name.calls a0 t647 _ ?side1 A14.out).mono ?_); (case side1 => exact (HGL.out.below (by repeat (first | (with_reducible first | exact HB.out | apply pA | apply pN | apply pD) | exact HB.out)))); rintro e w20 ⟨rfl, hb⟩; have n0_ := Aside0.mk (below_step (by repeat (first | (with_reducible first | exact HB.out | apply pA | apply pN | apply pD) | exact HB.out)) hb); clear HB; have HB := n0_; clear n0_; (try clear hb); (try clear hb2); (try clear hk); (try clear hi)) | (go_at_call 17; (with_reducible refine (fsm_Name.calls a1 t648 _ ?side1 A15.out).mono ?_); (case side1 => exact (HGL.out.below (by repeat (first | (with_reducible first | exact HB.out | apply pA | apply pN | apply pD) | exact HB.out)))); rintro e w21 ⟨rfl, hb⟩; have n0_ := Aside0.mk (below_step (by repeat (first | (with_reducible first | exact HB.out | apply pA | apply pN | apply pD) | exact HB.out)) hb); clear HB; have HB := n0_; clear n0_; (try clear hb); (try clear hb2); (try clear hk); (try clear hi)) | (go_at_call 15; (with_reducible refine (fsm_Timed.calls a0 true _ A17.out).mono ?_); rintro e w' ⟨rfl, ⟨nd, rfl⟩⟩))
                      go_ret
                      exact ⟨by first | rfl | (simp [errW_none, errW_some] <;> rfl) | (simp [*, errW_none, errW_some] <;> rfl), by repeat (first | (with_reducible first | exact HB.out | apply pA | apply pN | apply pD) | exact HB.out)⟩
                    · replace c18 := Bool.eq_false_iff.mpr c18
                      subst c18
                      have H1 : (some true) = some r := by rw [if_neg (show ¬ (false = true) by decide)] at H; exact H
                      clear H
                      have H := H1
                      clear H1
                      clear hlaw_
                      obtain rfl := Option.some.inj H
                      (try have cs1_ : t646.toList ≠ [] := by simpa using c11b0)
                      (try have cs2_ : t646.toList = [] := by simpa using c11b0)
                      (try have cs3_ : ((t646.toList == t648.toList) == (a0 == a1)) = true := by have e_ : t647 = t646 := Option.some.inj (A14.out.symm.trans A10.out); rw [← e_]; exact c16b0)
                      (try have cs4_ : decide ((t646.toList == t648.toList) = (a0 == a1)) = true := by simpa using cs3_)
                      go_wp2_with (first | (go_at_call 17; (with_reducible refine (fsm_Name.calls a0 t646 _ ?side1 A10.out).mono ?_); (case side1 => exact (HGL.out.below (by repeat (first | (with_reducible first | exact HB.out | apply pA | apply pN | apply pD) | exact HB.out)))); rintro e w22 ⟨rfl, hb⟩; have n0_ := Aside0.mk (below_step (by repeat (first | (with_reducible first | exact HB.out | apply pA | apply pN | apply pD) | exact HB.out)) hb); clear HB; have HB := n0_; clear n0_; (try clear hb); (try clear hb2); (try clear hk); (try clear hi)) | (go_at_call 17; (with_reducible refine (fsm_Name.calls a0 t647 _ ?side1 A14.out).mono ?_); (case side1 => exact (HGL.out.below (by repeat (first | (with_reducible first | exact HB.out | apply pA | apply pN | apply pD) | exact HB.out)))); rintro e w23 ⟨rfl, hb⟩; have n0_ := Aside0.mk (below_step (by repeat (first | (with_reducible first | exact HB.out | apply pA | apply pN | apply pD) | exact HB.out)) hb); clear HB; have HB := n0_; clear n0_; (try clear hb); (try clear hb2); (try clear hk); (try clear hi)) | (go_at_call 17; (with_reducible refine (fsm_Name.calls a1 t648 _ ?side1 A15.out).mono ?_); (case side1 => exact (HGL.out.below (by repeat (first | (with_reducible first | exact HB.out | apply pA | apply pN | apply pD) | exact HB.out)))); rintro e w24 ⟨rfl, hb⟩; have n0_ := Aside0.mk (below_step (by repeat (first | (with_reducible first | exact HB.out | apply pA | apply pN | apply pD) | exact HB.out)) hb); clear HB; have HB := n0_; clear n0_; (try clear hb); (try clear hb2); (try clear hk); (try clear hi)) | (go_at_call 15; (with_reducible refine (fsm_Timed.calls a0 false _ A17.out).mono ?_); rintro e w' ⟨rfl, ⟨nd, rfl⟩⟩))
                      go_ret
                      exact ⟨by first | rfl | (simp [errW_none, errW_some] <;> rfl) | (simp [*, errW_none, errW_some] <;> rfl), by repeat (first | (with_reducible first | exact HB.out | apply pA | apply pN | apply pD) | exact HB.out)⟩
                  · rw [if_neg c16] at H
                    have c16b0 : ((t647.toList == t648.toList) == (a0 == a1)) = false := by simpa using c16
                    (try (have c16b1 : decide ((t647.toList == t648.toList) = (a0 == a1)) = false := by simpa using c16))
                    (try (have c16b2 : ((t647.toList == t648.toList) == (a0 == a1)) = false := by simpa using c16))
                    (try (have c16b3 : ¬ ((t647.toList == t648.toList) = (a0 == a1)) := by simpa using c16))
                    clear c16
                    exact absurd ((Option.some.inj H).trans hlaw_.out) (by decide)
                · replace c13 := Bool.eq_false_iff.mpr c13
                  subst c13
                  have H1 : ((fsm_Timed.f a0).bind fun t650 => (if t650 = true then (some true) else (some true))) = some r := by rw [if_neg (show ¬ (false = true) by decide)] at H; exact H
                  clear H
                  have H := H1
                  clear H1
                  replace H := Option.bind_eq_some_iff.mp H
                  obtain ⟨t650, A250, H⟩ := H
                  replace H : (if t650 = true then (some true) else (some true)) = some r := H
                  have A25 := Aside0.mk A250
                  clear A250
                  by_cases c26 : t650 = true
                  · subst c26
                    have H1 : (some true) = some r := by rw [if_pos rfl] at H; exact H
                    clear H
                    have H := H1
                    clear H1
                    clear hlaw_
                    obtain rfl := Option.some.inj H
                    (try have cs1_ : t646.toList ≠ [] := by simpa using c11b0)
                    (try have cs2_ : t646.toList = [] := by simpa using c11b0)
                    (try have cs3_ : ((t646.toList == t648.toList) == (a0 == a1)) = true := by have e_ : t647 = t646 := Option.some.inj (A14.out.symm.trans A10.out); rw [← e_]; exact c16b0)
                    (try have cs4_ : decide ((t646.toList == t648.toList) = (a0 == a1)) = true := by simpa using cs3_)
                    go_wp2_with (first | (go_at_call 17; (with_reducible refine (fsm_Name.calls a0 t646 _ ?side1 A10.out).mono ?_); (case side1 => exact (HGL.out.below (by repeat (first | (with_reducible first | exact HB.out | apply pA | apply pN | apply pD) | exact HB.out)))); rintro e w27 ⟨rfl, hb⟩; have n0_ := Aside0.mk (below_step (by repeat (first | (with_reducible first | exact HB.out | apply pA | apply pN | apply pD) | exact HB.out)) hb); clear HB; have HB := n0_; clear n0_; (try clear hb); (try clear hb2); (try clear hk); (try clear hi)) | (go_at_call 15; (with_reducible refine (fsm_Timed.calls a0 true _ A25.out).mono ?_); rintro e w' ⟨rfl, ⟨nd, rfl⟩⟩))
                    go_ret
                    exact ⟨by first | rfl | (simp [errW_none, errW_some] <;> rfl) | (simp [*, errW_none, errW_some] <;> rfl), by repeat (first | (with_reducible first | exact HB.out | apply pA | apply pN | apply pD) | exact HB.out)⟩
                  · replace c26 := Bool.eq_false_iff.mpr c26
                    subst c26
                    have H1 : (some true) = some r := by rw [if_neg (show ¬ (false = true) by decide)] at H; exact H
                    clear H
                    have H := H1
                    clear H1
                    clear hlaw_
                    obtain rfl := Option.some.inj H
                    (try have cs1_ : t646.toList ≠ [] := by simpa using c11b0)
                    (try have cs2_ : t646.toList = [] := by simpa using c11b0)
                    (try have cs3_ : ((t646.toList == t648.toList) == (a0 == a1)) = true := by have e_ : t647 = t646 := Option.some.inj (A14.out.symm.trans A10.out); rw [← e_]; exact c16b0)
                    (try have cs4_ : decide ((t646.toList == t648.toList) = (a0 == a1)) = true := by simpa using cs3_)
                    go_wp2_with (first | (go_at_call 17; (with_reducible refine (fsm_Name.calls a0 t646 _ ?side1 A10.out).mono ?_); (case side1 => exact (HGL.out.below (by repeat (first | (with_reducible first | exact HB.out | apply pA | apply pN | apply pD) | exact HB.out)))); rintro e w28 ⟨rfl, hb⟩; have n0_ := Aside0.mk (below_step (by repeat (first | (with_reducible first | exact HB.out | apply pA | apply pN | apply pD) | exact HB.out)) hb); clear HB; have HB := n0_; clear n0_; (try clear hb); (try clear hb2); (try clear hk); (try clear hi)) | (go_at_call 15; (with_reducible refine (fsm_Timed.calls a0 false _ A25.out).mono ?_); rintro e w' ⟨rfl, ⟨nd, rfl⟩⟩))
                    go_ret
                    exact ⟨by first | rfl | (simp [errW_none, errW_some] <;> rfl) | (simp [*, errW_none, errW_some] <;> rfl), by repeat (first | (with_reducible first | exact HB.out | apply pA | apply pN | apply pD) | exact HB.out)⟩
              · replace c12 := Bool.eq_false_iff.mpr c12
                subst c12
                have H1 : ((fsm_Timed.f a0).bind fun t651 => (if t651 = true then (some false) else (some true))) = some r := by rw [if_neg (show ¬ (false = true) by decide)] at H; exact H
                clear H
                have H := H1
                clear H1
                replace H := Option.bind_eq_some_iff.mp H
                obtain ⟨t651, A290, H⟩ := H
                replace H : (if t651 = true then (some false) else (some true)) = some r := H
                have A29 := Aside0.mk A290
                clear A290
                by_cases c30 : t651 = true
                · subst c30
                  have H1 : (some false) = some r := by rw [if_pos rfl] at H; exact H
                  clear H
                  have H := H1
                  clear H1
                  exact absurd ((Option.some.inj H).trans hlaw_.out) (by decide)
                · replace c30 := Bool.eq_false_iff.mpr c30
                  subst c30
                  have H1 : (some true) = some r := by rw [if_neg (show ¬ (false = true) by decide)] at H; exact H
                  clear H
                  have H := H1
                  clear H1
                  clear hlaw_
                  obtain rfl := Option.some.inj H
                  (try have cs1_ : t646.toList ≠ [] := by simpa using c11b0)
                  (try have cs2_ : t646.toList = [] := by simpa using c11b0)
                  (try have cs3_ : ((t646.toList == t648.toList) == (a0 == a1)) = true := by have e_ : t647 = t646 := Option.some.inj (A14.out.symm.trans A10.out); rw [← e_]; exact c16b0)
                  (try have cs4_ : decide ((t646.toList == t648.toList) = (a0 == a1)) = true := by simpa using cs3_)
                  go_wp2_with (first | (go_at_call 17; (with_reducible refine (fsm_Name.calls a0 t646 _ ?side1 A10.out).mono ?_); (case side1 => exact (HGL.out.below (by repeat (first | (with_reducible first | exact HB.out | apply pA | apply pN | apply pD) | exact HB.out)))); rintro e w31 ⟨rfl, hb⟩; have n0_ := Aside0.mk (below_step (by repeat (first | (with_reducible first | exact HB.out | apply pA | apply pN | apply pD) | exact HB.out)) hb); clear HB; have HB := n0_; clear n0_; (try clear hb); (try clear hb2); (try clear hk); (try clear hi)) | (go_at_call 15; (with_reducible refine (fsm_Timed.calls a0 false _ A29.out).mono ?_); rintro e w' ⟨rfl, ⟨nd, rfl⟩⟩))
                  go_ret
                  exact ⟨by first | rfl | (simp [errW_none, errW_some] <;> rfl) | (simp [*, errW_none, errW_some] <;> rfl), by repeat (first | (with_reducible first | exact HB.out | apply pA | apply pN | apply pD) | exact HB.out)⟩
            · rw [if_neg c11] at H
              have c11b0 : ((t646.toList != ([] : List UInt8)) == x6_3) = false := by simpa using c11
              (try (have c11b1 : decide ((t646.toList != ([] : List UInt8)) = x6_3) = false := by simpa using c11))
              (try (have c11b2 : ((t646.toList != ([] : List UInt8)) == x6_3) = false := by simpa using c11))
              (try (have c11b3 : ¬ ((t646.toList != ([] : List UInt8)) = x6_3) := by simpa using c11))
              clear c11
              exact absurd ((Option.some.inj H).trans hlaw_.out) (by decide)
          · replace c9 := Bool.eq_false_iff.mpr c9
            subst c9
            have H1 : (some false) = some r := by rw [if_neg (show ¬ (false = true) by decide)] at H; exact H
            clear H
            have H := H1
            clear H1
            exact absurd ((Option.some.inj H).trans hlaw_.out) (by decide)

/-! ### portreevelaw11_FsmClosed: function 8 -/
mutual
def portreevelaw11_FsmClosed.l0 : Nat → Int → Bool → Int → Option (Bool)
  | 0, _, _, _ => none
  | k + 1, x0, x3, x4 => if x4 ≤ 5 then ((fsm_Next.f x4 x0).bind fun bt653 => (if bt653.2.2 = true then (if bt653.2.1 = 9 then (portreevelaw11_FsmClosed.j1 k x0 x3 x4 true) else ((portreeveref11_Has.f k bt653.1 8).bind fun t658 => (if t658 = true then (portreevelaw11_FsmClosed.j1 k x0 x3 x4 true) else ((portreeveref11_Has.f k bt653.1 7).bind fun t659 => (if t659 = true then (portreevelaw11_FsmClosed.j1 k x0 x3 x4 true) else ((portreeveref11_Has.f k bt653.1 1).bind fun t660 => (portreevelaw11_FsmClosed.j1 k x0 x3 x4 t660))))))) else (portreevelaw11_FsmClosed.j1 k x0 x3 x4 false))) else (some x3)
def portreevelaw11_FsmClosed.j1 : Nat → Int → Bool → Int → Bool → Option (Bool)
  | 0, _, _, _, _ => none
  | k + 1, x0, x3, x4, x36 => if x36 = true then (some false) else (portreevelaw11_FsmClosed.l0 k x0 x3 (wrap64 (x4 + 1)))
end
def portreevelaw11_FsmClosed.f (k : Nat) (a0 : Int) : Option (Bool) := (portreevelaw11_shown.f).bind fun t652 => (portreevelaw11_FsmClosed.l0 k a0 t652 4)
theorem portreevelaw11_FsmClosed.mono_l : ∀ k, (∀ y0 y1 y2, LeO (portreevelaw11_FsmClosed.l0 k y0 y1 y2) (portreevelaw11_FsmClosed.l0 (k + 1) y0 y1 y2)) ∧ (∀ y0 y1 y2 y3, LeO (portreevelaw11_FsmClosed.j1 k y0 y1 y2 y3) (portreevelaw11_FsmClosed.j1 (k + 1) y0 y1 y2 y3))
  | 0 => ⟨fun _ _ _ r h => by simp [portreevelaw11_FsmClosed.l0] at h, fun _ _ _ _ r h => by simp [portreevelaw11_FsmClosed.j1] at h⟩
  | k + 1 => by
    obtain ⟨ih0, ih1⟩ := portreevelaw11_FsmClosed.mono_l k
    refine ⟨?_, ?_⟩
    · intro y0 y1 y2
      unfold portreevelaw11_FsmClosed.l0
      repeat' first
      | (with_reducible exact ih0 _ _ _)
      | (with_reducible exact ih1 _ _ _ _)
      | (with_reducible exact portreeveref11_Has.mono _ _ _)
      | (with_reducible exact LeO.refl _)
      | (with_reducible exact LeO.none _)
      | (with_reducible refine LeO.ite ?_ ?_)
      | (with_reducible refine LeO.bind ?_ (fun _ => ?_))
      | exact ih0 _ _ _
      | exact ih1 _ _ _ _
      | exact portreeveref11_Has.mono _ _ _
      | exact LeO.none _
      | refine LeO.ite ?_ ?_
      | refine LeO.bind ?_ (fun _ => ?_)
    · intro y0 y1 y2 y3
      unfold portreevelaw11_FsmClosed.j1
      repeat' first
      | (with_reducible exact ih0 _ _ _)
      | (with_reducible exact ih1 _ _ _ _)
      | (with_reducible exact portreeveref11_Has.mono _ _ _)
      | (with_reducible exact LeO.refl _)
      | (with_reducible exact LeO.none _)
      | (with_reducible refine LeO.ite ?_ ?_)
      | (with_reducible refine LeO.bind ?_ (fun _ => ?_))
      | exact ih0 _ _ _
      | exact ih1 _ _ _ _
      | exact portreeveref11_Has.mono _ _ _
      | exact LeO.none _
      | refine LeO.ite ?_ ?_
      | refine LeO.bind ?_ (fun _ => ?_)
theorem portreevelaw11_FsmClosed.mono : ∀ a0 k, LeO (portreevelaw11_FsmClosed.f k a0) (portreevelaw11_FsmClosed.f (k + 1) a0) := by
  intro a0 k
  obtain ⟨ih0, ih1⟩ := portreevelaw11_FsmClosed.mono_l k
  unfold portreevelaw11_FsmClosed.f
  repeat' first
      | (with_reducible exact ih0 _ _ _)
      | (with_reducible exact ih1 _ _ _ _)
      | (with_reducible exact portreeveref11_Has.mono _ _ _)
      | (with_reducible exact LeO.refl _)
      | (with_reducible exact LeO.none _)
      | (with_reducible refine LeO.ite ?_ ?_)
      | (with_reducible refine LeO.bind ?_ (fun _ => ?_))
      | exact ih0 _ _ _
      | exact ih1 _ _ _ _
      | exact portreeveref11_Has.mono _ _ _
      | exact LeO.none _
      | refine LeO.ite ?_ ?_
      | refine LeO.bind ?_ (fun _ => ?_)
set_option maxHeartbeats 8000000 in
set_option maxRecDepth 100000 in
theorem portreevelaw11_FsmClosed.calls (k : Nat) (a0 : Int) (r : Bool) (w : World) (hlaw_ : Aside0 (r = true)) (hgl : Gl w) (h : portreevelaw11_FsmClosed.f k a0 = some r) :
    Calls Tryd.prog 8 #[.int .i64 a0] w fun e w' => e = .returned (.bool r) ∧ Below w.heap.size w w' := by
  have HB := Aside0.mk (Below.refl w.heap.size w)
  have HGL := Aside0.mk hgl
  clear hgl
  have H : ((portreevelaw11_shown.f).bind fun t652 => (portreevelaw11_FsmClosed.l0 k a0 t652 4)) = some r := h
  clear h
  replace H := Option.bind_eq_some_iff.mp H
  obtain ⟨t652, A20, H⟩ := H
  replace H : (portreevelaw11_FsmClosed.l0 k a0 t652 4) = some r := H
  have A2 := Aside0.mk A20
  clear A20
  have H' := Aside0.mk H
  clear H
  go_enter Tryd.func8, Tryd.ntmps8
  go_wp2_with (first | ((with_reducible refine gate_callee (f := 11) rfl ?_); refine goesL_ (some 8) rfl rfl Tryd.func11 (by kernel_rfl) rfl #[] rfl (by (try simp only [List.map_toArray, List.map_cons, List.map_nil]); first | done | rfl | (simp only [List.length_drop, List.length_take]; rfl)) ?_; (with_reducible refine (portreevelaw11_shown.calls  t652 _ ?side1 A2.out).mono ?_); (case side1 => exact (HGL.out.below (by repeat (first | (with_reducible first | exact HB.out | apply pA | apply pN | apply pD) | exact HB.out)))); rintro e w3 ⟨rfl, hb⟩; refine ⟨_, rfl, ?_⟩; have n0_ := Aside0.mk (below_step (by repeat (first | (with_reducible first | exact HB.out | apply pA | apply pN | apply pD) | exact HB.out)) hb); clear HB; have HB := n0_; clear n0_; (try clear hb); (try clear hb2); (try clear hk); (try clear hi)))
  go_loopg [4] k (fun kq v4 w' => ∃ (x4_1 : Int), v4 = .int .i64 x4_1 ∧ Aside0 (portreevelaw11_FsmClosed.l0 kq a0 t652 x4_1 = some r) ∧ Aside0 (kq ≤ k) ∧ Aside0 (Below w.heap.size w w'))
  case atStart => exact ⟨(4), (by first | rfl | (simp; done) | (simp [*]; done)), H', ⟨Nat.le_refl _⟩, ⟨by repeat (first | (with_reducible first | exact HB.out | apply pA | apply pN | apply pD) | exact HB.out)⟩⟩
  case round =>
    clear H'
    try clear c1
    try clear p2
    obtain ⟨x4_1, rfl, HA, HK1, HB⟩ := hrel
    cases gk with
    | zero => exact absurd HA.out (by simp [portreevelaw11_FsmClosed.l0])
    | succ k1 =>
      have H := HA.out
      clear HA
      simp only [portreevelaw11_FsmClosed.l0] at H
      by_cases c4 : x4_1 ≤ 5
      · rw [if_pos c4] at H
        have c4b0 : decide (x4_1 ≤ 5) = true := decide_eq_true c4
        clear c4
        replace H := Option.bind_eq_some_iff.mp H
        obtain ⟨⟨t653, t654, t655⟩, A50, H⟩ := H
        replace H : (if t655 = true then (if t654 = 9 then (portreevelaw11_FsmClosed.j1 k1 a0 t652 x4_1 true) else ((portreeveref11_Has.f k1 t653 8).bind fun t658 => (if t658 = true then (portreevelaw11_FsmClosed.j1 k1 a0 t652 x4_1 true) else ((portreeveref11_Has.f k1 t653 7).bind fun t659 => (if t659 = true then (portreevelaw11_FsmClosed.j1 k1 a0 t652 x4_1 true) else ((portreeveref11_Has.f k1 t653 1).bind fun t660 => (portreevelaw11_FsmClosed.j1 k1 a0 t652 x4_1 t660))))))) else (portreevelaw11_FsmClosed.j1 k1 a0 t652 x4_1 false)) = some r := H
        have A5 := Aside0.mk A50
        clear A50
        have HC6 := Aside0.mk H
        clear H
        go_upto_region 6 with (first | ((with_reducible refine gate_callee (f := 12) rfl ?_); refine goesL_ (some 16) rfl rfl Tryd.func12 (by kernel_rfl) rfl #[.int .i64 x4_1, .int .i64 a0] rfl (by (try simp only [List.map_toArray, List.map_cons, List.map_nil]); first | done | rfl | (simp only [List.length_drop, List.length_take]; rfl)) ?_; (with_reducible refine (fsm_Next.calls x4_1 a0 t653 t654 t655 _ ?side1 A5.out).mono ?_); (case side1 => exact (HGL.out.below (by repeat (first | (with_reducible first | exact HB.out | apply pA | apply pN | apply pD) | exact HB.out)))); rintro e w7 ⟨v656, rfl, ho0, hb⟩; refine ⟨_, rfl, ?_⟩; have n0_ := Aside0.mk (Kd.R_lower ho0 (below_size (by repeat (first | (with_reducible first | exact HB.out | apply pA | apply pN | apply pD) | exact HB.out)))); have n1_ := Aside0.mk (below_step (by repeat (first | (with_reducible first | exact HB.out | apply pA | apply pN | apply pD) | exact HB.out)) hb); clear HB; have HO657 := n0_; have HB := n1_; clear n0_ n1_; (try clear hb); (try clear hb2); (try clear hk); (try clear hi); (try clear ho0)))
        (try simp only [Act.put, List.setIfInBounds_toArray, List.set_cons_zero, List.set_cons_succ])
        go_cut [36] (fun v36 wc => ∃ (kq : Nat) (x36_5 : Bool), v36 = .bool x36_5 ∧ Aside0 (portreevelaw11_FsmClosed.j1 kq a0 t652 x4_1 x36_5 = some r) ∧ Aside0 (kq ≤ k1) ∧ Aside0 (Below w.heap.size w wc))
        case first =>
          have H := HC6.out
          clear HC6
          by_cases c8 : t655 = true
          · subst c8
            have H1 : (if t654 = 9 then (portreevelaw11_FsmClosed.j1 k1 a0 t652 x4_1 true) else ((portreeveref11_Has.f k1 t653 8).bind fun t658 => (if t658 = true then (portreevelaw11_FsmClosed.j1 k1 a0 t652 x4_1 true) else ((portreeveref11_Has.f k1 t653 7).bind fun t659 => (if t659 = true then (portreevelaw11_FsmClosed.j1 k1 a0 t652 x4_1 true) else ((portreeveref11_Has.f k1 t653 1).bind fun t660 => (portreevelaw11_FsmClosed.j1 k1 a0 t652 x4_1 t660))))))) = some r := by rw [if_pos rfl] at H; exact H
            clear H
            have H := H1
            clear H1
            by_cases c9 : t654 = 9
            · rw [if_pos c9] at H
              have c9b0 : (t654 == 9) = true := beq_iff_eq.mpr c9
              have c9b1 : (t654 != 9) = false := bne_eq_false_iff_eq.mpr c9
              clear c9
              (first | rw [c9b0] | (simp only [i64_w, i32_w]; rw [c9b0]) | skip)
              have H' := Aside0.mk H
              clear H
              go_wp2
              go_meet
              case rel => exact ⟨_, (true), (by first | rfl | (simp; done) | (simp [*]; done)), H', ⟨by have := HK1.out; first | omega | exact Nat.le_refl _⟩, ⟨by repeat (first | (with_reducible first | exact HB.out | apply pA | apply pN | apply pD) | exact HB.out)⟩⟩
            · rw [if_neg c9] at H
              have c9b0 : (t654 == 9) = false := beq_eq_false_iff_ne.mpr c9
              have c9b1 : (t654 != 9) = true := bne_iff_ne.mpr c9
              (first | rw [c9b0] | (simp only [i64_w, i32_w]; rw [c9b0]) | skip)
              replace H := Option.bind_eq_some_iff.mp H
              obtain ⟨t658, A100, H⟩ := H
              replace H : (if t658 = true then (portreevelaw11_FsmClosed.j1 k1 a0 t652 x4_1 true) else ((portreeveref11_Has.f k1 t653 7).bind fun t659 => (if t659 = true then (portreevelaw11_FsmClosed.j1 k1 a0 t652 x4_1 true) else ((portreeveref11_Has.f k1 t653 1).bind fun t660 => (portreevelaw11_FsmClosed.j1 k1 a0 t652 x4_1 t660))))) = some r := H
              have A10 := Aside0.mk A100
              clear A100
              by_cases c11 : t658 = true
              · subst c11
                have H1 : (portreevelaw11_FsmClosed.j1 k1 a0 t652 x4_1 true) = some r := by rw [if_pos rfl] at H; exact H
                clear H
                have H := H1
                clear H1
                have H' := Aside0.mk H
                clear H
                obtain ⟨Ao12, co12, eo12⟩ := Kd.R_slice HO657.out
                subst eo12
                go_wp2_with (first | (go_at_call 19; (with_reducible refine (portreeveref11_Has.calls k1 _ _ t653 8 true _ ?side1 ?side2 A10.out).mono ?_); (case side1 => repeat (first | exact (Kd.R_reads' HO657.out).2.2 | (with_reducible refine Kd.C_alloc ?_ _) | (with_reducible refine Kd.C_drewN ?_ _) | (with_reducible refine Kd.C_drew ?_))); (case side2 => exact (Kd.R_reads' HO657.out).2.1); rintro e w' ⟨rfl, ⟨nd, rfl⟩⟩))
                go_meet
                case rel => exact ⟨_, (true), (by first | rfl | (simp; done) | (simp [*]; done)), H', ⟨by have := HK1.out; first | omega | exact Nat.le_refl _⟩, ⟨by repeat (first | (with_reducible first | exact HB.out | apply pA | apply pN | apply pD) | exact HB.out)⟩⟩
              · replace c11 := Bool.eq_false_iff.mpr c11
                subst c11
                have H1 : ((portreeveref11_Has.f k1 t653 7).bind fun t659 => (if t659 = true then (portreevelaw11_FsmClosed.j1 k1 a0 t652 x4_1 true) else ((portreeveref11_Has.f k1 t653 1).bind fun t660 => (portreevelaw11_FsmClosed.j1 k1 a0 t652 x4_1 t660)))) = some r := by rw [if_neg (show ¬ (false = true) by decide)] at H; exact H
                clear H
                have H := H1
                clear H1
                replace H := Option.bind_eq_some_iff.mp H
                obtain ⟨t659, A130, H⟩ := H
                replace H : (if t659 = true then (portreevelaw11_FsmClosed.j1 k1 a0 t652 x4_1 true) else ((portreeveref11_Has.f k1 t653 1).bind fun t660 => (portreevelaw11_FsmClosed.j1 k1 a0 t652 x4_1 t660))) = some r := H
                have A13 := Aside0.mk A130
                clear A130
                by_cases c14 : t659 = true
                · subst c14
                  have H1 : (portreevelaw11_FsmClosed.j1 k1 a0 t652 x4_1 true) = some r := by rw [if_pos rfl] at H; exact H
                  clear H
                  have H := H1
                  clear H1
                  have H' := Aside0.mk H
                  clear H
                  obtain ⟨Ao15, co15, eo15⟩ := Kd.R_slice HO657.out
                  subst eo15
                  go_wp2_with (first | (go_at_call 19; (with_reducible refine (portreeveref11_Has.calls k1 _ _ t653 8 false _ ?side1 ?side2 A10.out).mono ?_); (case side1 => repeat (first | exact (Kd.R_reads' HO657.out).2.2 | (with_reducible refine Kd.C_alloc ?_ _) | (with_reducible refine Kd.C_drewN ?_ _) | (with_reducible refine Kd.C_drew ?_))); (case side2 => exact (Kd.R_reads' HO657.out).2.1); rintro e w' ⟨rfl, ⟨nd, rfl⟩⟩) | (go_at_call 19; (with_reducible refine (portreeveref11_Has.calls k1 _ _ t653 7 true _ ?side1 ?side2 A13.out).mono ?_); (case side1 => repeat (first | exact (Kd.R_reads' HO657.out).2.2 | (with_reducible refine Kd.C_alloc ?_ _) | (with_reducible refine Kd.C_drewN ?_ _) | (with_reducible refine Kd.C_drew ?_))); (case side2 => exact (Kd.R_reads' HO657.out).2.1); rintro e w' ⟨rfl, ⟨nd, rfl⟩⟩))
                  go_meet
                  case rel => exact ⟨_, (true), (by first | rfl | (simp; done) | (simp [*]; done)), H', ⟨by have := HK1.out; first | omega | exact Nat.le_refl _⟩, ⟨by repeat (first | (with_reducible first | exact HB.out | apply pA | apply pN | apply pD) | exact HB.out)⟩⟩
                · replace c14 := Bool.eq_false_iff.mpr c14
                  subst c14
                  have H1 : ((portreeveref11_Has.f k1 t653 1).bind fun t660 => (portreevelaw11_FsmClosed.j1 k1 a0 t652 x4_1 t660)) = some r := by rw [if_neg (show ¬ (false = true) by decide)] at H; exact H
                  clear H
                  have H := H1
                  clear H1
                  replace H := Option.bind_eq_some_iff.mp H
                  obtain ⟨t660, A160, H⟩ := H
                  replace H : (portreevelaw11_FsmClosed.j1 k1 a0 t652 x4_1 t660) = some r := H
                  have A16 := Aside0.mk A160
                  clear A160
                  have H' := Aside0.mk H
                  clear H
                  obtain ⟨Ao17, co17, eo17⟩ := Kd.R_slice HO657.out
                  subst eo17
                  go_wp2_with (first | (go_at_call 19; (with_reducible refine (portreeveref11_Has.calls k1 _ _ t653 8 false _ ?side1 ?side2 A10.out).mono ?_); (case side1 => repeat (first | exact (Kd.R_reads' HO657.out).2.2 | (with_reducible refine Kd.C_alloc ?_ _) | (with_reducible refine Kd.C_drewN ?_ _) | (with_reducible refine Kd.C_drew ?_))); (case side2 => exact (Kd.R_reads' HO657.out).2.1); rintro e w' ⟨rfl, ⟨nd, rfl⟩⟩) | (go_at_call 19; (with_reducible refine (portreeveref11_Has.calls k1 _ _ t653 7 false _ ?side1 ?side2 A13.out).mono ?_); (case side1 => repeat (first | exact (Kd.R_reads' HO657.out).2.2 | (with_reducible refine Kd.C_alloc ?_ _) | (with_reducible refine Kd.C_drewN ?_ _) | (with_reducible refine Kd.C_drew ?_))); (case side2 => exact (Kd.R_reads' HO657.out).2.1); rintro e w' ⟨rfl, ⟨nd, rfl⟩⟩) | (go_at_call 19; (with_reducible refine (portreeveref11_Has.calls k1 _ _ t653 1 t660 _ ?side1 ?side2 A16.out).mono ?_); (case side1 => repeat (first | exact (Kd.R_reads' HO657.out).2.2 | (with_reducible refine Kd.C_alloc ?_ _) | (with_reducible refine Kd.C_drewN ?_ _) | (with_reducible refine Kd.C_drew ?_))); (case side2 => exact (Kd.R_reads' HO657.out).2.1); rintro e w' ⟨rfl, ⟨nd, rfl⟩⟩))
                  go_meet
                  case rel => exact ⟨_, (t660), (by first | rfl | (simp; done) | (simp [*]; done)), H', ⟨by have := HK1.out; first | omega | exact Nat.le_refl _⟩, ⟨by repeat (first | (with_reducible first | exact HB.out | apply pA | apply pN | apply pD) | exact HB.out)⟩⟩
          · replace c8 := Bool.eq_false_iff.mpr c8
            subst c8
            have H1 : (portreevelaw11_FsmClosed.j1 k1 a0 t652 x4_1 false) = some r := by rw [if_neg (show ¬ (false = true) by decide)] at H; exact H
            clear H
            have H := H1
            clear H1
            have H' := Aside0.mk H
            clear H
            go_wp2
            go_meet
            case rel => exact ⟨_, (false), (by first | rfl | (simp; done) | (simp [*]; done)), H', ⟨by have := HK1.out; first | omega | exact Nat.le_refl _⟩, ⟨by repeat (first | (with_reducible first | exact HB.out | apply pA | apply pN | apply pD) | exact HB.out)⟩⟩
        case rest =>
          clear HC6
          try clear c1
          try clear p2
          try clear c4
          try clear c4b0
          try clear c8
          try clear c9
          try clear c9b0
          try clear c9b1
          try clear c11
          try clear c12
          try clear c14
          try clear p2
          obtain ⟨kq, x36_5, rfl, HA, HJ5, HB⟩ := hcut
          cases kq with
          | zero => exact absurd HA.out (by simp [portreevelaw11_FsmClosed.j1])
          | succ kj5 =>
            have H := HA.out
            clear HA
            simp only [portreevelaw11_FsmClosed.j1] at H
            by_cases c18 : x36_5 = true
            · subst c18
              have H1 : (some false) = some r := by rw [if_pos rfl] at H; exact H
              clear H
              have H := H1
              clear H1
              exact absurd ((Option.some.inj H).trans hlaw_.out) (by decide)
            · replace c18 := Bool.eq_false_iff.mpr c18
              subst c18
              have H1 : (portreevelaw11_FsmClosed.l0 kj5 a0 t652 (wrap64 (x4_1 + 1))) = some r := by rw [if_neg (show ¬ (false = true) by decide)] at H; exact H
              clear H
              have H := H1
              clear H1
              have H' := Aside0.mk H
              clear H
              go_wp2
              go_roundg kj5
              case measure => have := HK1.out; have := HJ5.out; omega
              case rel => exact ⟨(wrap64 (x4_1 + 1)), (by first | rfl | (simp; done) | (simp [*]; done)), H', ⟨by have := HK1.out; have := HJ5.out; omega⟩, ⟨by repeat (first | (with_reducible first | exact HB.out | apply pA | apply pN | apply pD) | exact HB.out)⟩⟩
      · rw [if_neg c4] at H
        have c4b0 : decide (x4_1 ≤ 5) = false := decide_eq_false c4
        clear c4
        clear hlaw_
        obtain rfl := Option.some.inj H
        go_wp2
        go_ret
        exact ⟨by first | rfl | (simp [errW_none, errW_some] <;> rfl) | (simp [*, errW_none, errW_some] <;> rfl), by repeat (first | (with_reducible first | exact HB.out | apply pA | apply pN | apply pD) | exact HB.out)⟩

/-! ### portreevelaw11_FsmAgrees: function 9 -/
def portreevelaw11_FsmAgrees.f (a0 : Int) (a1 : Int) : Option (Bool) := (portreevelaw11_shown.f).bind fun t661 => ((fsm_Next.f a0 a1).bind fun bt662 => (if bt662.2.2 = true then (if bt662.2.1 = 9 then (if t661 = true then (if a0 = 7 then (if a1 = 6 then (some ((a0 != 9) == true)) else (if a0 = 8 then (some ((a0 != 9) == (a1 == 8))) else (some ((a0 != 9) == false)))) else (if a0 = 8 then (some ((a0 != 9) == (a1 == 8))) else (some ((a0 != 9) == false)))) else (some false)) else (if t661 = true then (if a0 = 7 then (if a1 = 6 then (some (false == true)) else (if a0 = 8 then (some (false == (a1 == 8))) else (some (false == false)))) else (if a0 = 8 then (some (false == (a1 == 8))) else (some (false == false)))) else (some false))) else (if t661 = true then (if a0 = 7 then (if a1 = 6 then (some (false == true)) else (if a0 = 8 then (some (false == (a1 == 8))) else (some (false == false)))) else (if a0 = 8 then (some (false == (a1 == 8))) else (some (false == false)))) else (some false))))
set_option maxHeartbeats 8000000 in
set_option maxRecDepth 100000 in
theorem portreevelaw11_FsmAgrees.calls (a0 : Int) (a1 : Int) (r : Bool) (w : World) (hlaw_ : Aside0 (r = true)) (hgl : Gl w) (h : portreevelaw11_FsmAgrees.f a0 a1 = some r) :
    Calls Tryd.prog 9 #[.int .i64 a0, .int .i64 a1] w fun e w' => e = .returned (.bool r) ∧ Below w.heap.size w w' := by
  have HB := Aside0.mk (Below.refl w.heap.size w)
  have HGL := Aside0.mk hgl
  clear hgl
  have H : ((portreevelaw11_shown.f).bind fun t661 => ((fsm_Next.f a0 a1).bind fun bt662 => (if bt662.2.2 = true then (if bt662.2.1 = 9 then (if t661 = true then (if a0 = 7 then (if a1 = 6 then (some ((a0 != 9) == true)) else (if a0 = 8 then (some ((a0 != 9) == (a1 == 8))) else (some ((a0 != 9) == false)))) else (if a0 = 8 then (some ((a0 != 9) == (a1 == 8))) else (some ((a0 != 9) == false)))) else (some false)) else (if t661 = true then (if a0 = 7 then (if a1 = 6 then (some (false == true)) else (if a0 = 8 then (some (false == (a1 == 8))) else (some (false == false)))) else (if a0 = 8 then (some (false == (a1 == 8))) else (some (false == false)))) else (some false))) else (if t661 = true then (if a0 = 7 then (if a1 = 6 then (some (false == true)) else (if a0 = 8 then (some (false == (a1 == 8))) else (some (false == false)))) else (if a0 = 8 then (some (false == (a1 == 8))) else (some (false == false)))) else (some false))))) = some r := h
  clear h
  replace H := Option.bind_eq_some_iff.mp H
  obtain ⟨t661, A30, H⟩ := H
  replace H : ((fsm_Next.f a0 a1).bind fun bt662 => (if bt662.2.2 = true then (if bt662.2.1 = 9 then (if t661 = true then (if a0 = 7 then (if a1 = 6 then (some ((a0 != 9) == true)) else (if a0 = 8 then (some ((a0 != 9) == (a1 == 8))) else (some ((a0 != 9) == false)))) else (if a0 = 8 then (some ((a0 != 9) == (a1 == 8))) else (some ((a0 != 9) == false)))) else (some false)) else (if t661 = true then (if a0 = 7 then (if a1 = 6 then (some (false == true)) else (if a0 = 8 then (some (false == (a1 == 8))) else (some (false == false)))) else (if a0 = 8 then (some (false == (a1 == 8))) else (some (false == false)))) else (some false))) else (if t661 = true then (if a0 = 7 then (if a1 = 6 then (some (false == true)) else (if a0 = 8 then (some (false == (a1 == 8))) else (some (false == false)))) else (if a0 = 8 then (some (false == (a1 == 8))) else (some (false == false)))) else (some false)))) = some r := H
  have A3 := Aside0.mk A30
  clear A30
  replace H := Option.bind_eq_some_iff.mp H
  obtain ⟨⟨t662, t663, t664⟩, A40, H⟩ := H
  replace H : (if t664 = true then (if t663 = 9 then (if t661 = true then (if a0 = 7 then (if a1 = 6 then (some ((a0 != 9) == true)) else (if a0 = 8 then (some ((a0 != 9) == (a1 == 8))) else (some ((a0 != 9) == false)))) else (if a0 = 8 then (some ((a0 != 9) == (a1 == 8))) else (some ((a0 != 9) == false)))) else (some false)) else (if t661 = true then (if a0 = 7 then (if a1 = 6 then (some (false == true)) else (if a0 = 8 then (some (false == (a1 == 8))) else (some (false == false)))) else (if a0 = 8 then (some (false == (a1 == 8))) else (some (false == false)))) else (some false))) else (if t661 = true then (if a0 = 7 then (if a1 = 6 then (some (false == true)) else (if a0 = 8 then (some (false == (a1 == 8))) else (some (false == false)))) else (if a0 = 8 then (some (false == (a1 == 8))) else (some (false == false)))) else (some false))) = some r := H
  have A4 := Aside0.mk A40
  clear A40
  by_cases c5 : t664 = true
  · subst c5
    have H1 : (if t663 = 9 then (if t661 = true then (if a0 = 7 then (if a1 = 6 then (some ((a0 != 9) == true)) else (if a0 = 8 then (some ((a0 != 9) == (a1 == 8))) else (some ((a0 != 9) == false)))) else (if a0 = 8 then (some ((a0 != 9) == (a1 == 8))) else (some ((a0 != 9) == false)))) else (some false)) else (if t661 = true then (if a0 = 7 then (if a1 = 6 then (some (false == true)) else (if a0 = 8 then (some (false == (a1 == 8))) else (some (false == false)))) else (if a0 = 8 then (some (false == (a1 == 8))) else (some (false == false)))) else (some false))) = some r := by rw [if_pos rfl] at H; exact H
    clear H
    have H := H1
    clear H1
    by_cases c6 : t663 = 9
    · rw [if_pos c6] at H
      have c6b0 : (t663 == 9) = true := beq_iff_eq.mpr c6
      have c6b1 : (t663 != 9) = false := bne_eq_false_iff_eq.mpr c6
      clear c6
      by_cases c7 : t661 = true
      · subst c7
        have H1 : (if a0 = 7 then (if a1 = 6 then (some ((a0 != 9) == true)) else (if a0 = 8 then (some ((a0 != 9) == (a1 == 8))) else (some ((a0 != 9) == false)))) else (if a0 = 8 then (some ((a0 != 9) == (a1 == 8))) else (some ((a0 != 9) == false)))) = some r := by rw [if_pos rfl] at H; exact H
        clear H
        have H := H1
        clear H1
        by_cases c8 : a0 = 7
        · rw [if_pos c8] at H
          have c8b0 : (a0 == 7) = true := beq_iff_eq.mpr c8
          have c8b1 : (a0 != 7) = false := bne_eq_false_iff_eq.mpr c8
          clear c8
          by_cases c9 : a1 = 6
          · rw [if_pos c9] at H
            have c9b0 : (a1 == 6) = true := beq_iff_eq.mpr c9
            have c9b1 : (a1 != 6) = false := bne_eq_false_iff_eq.mpr c9
            clear c9
            clear hlaw_
            obtain rfl := Option.some.inj H
            go_enter Tryd.func9, Tryd.ntmps9
            go_wp2_with (first | ((with_reducible refine gate_callee (f := 11) rfl ?_); refine goesL_ (some 10) rfl rfl Tryd.func11 (by kernel_rfl) rfl #[] rfl (by (try simp only [List.map_toArray, List.map_cons, List.map_nil]); first | done | rfl | (simp only [List.length_drop, List.length_take]; rfl)) ?_; (with_reducible refine (portreevelaw11_shown.calls  true _ ?side1 A3.out).mono ?_); (case side1 => exact (HGL.out.below (by repeat (first | (with_reducible first | exact HB.out | apply pA | apply pN | apply pD) | exact HB.out)))); rintro e w10 ⟨rfl, hb⟩; refine ⟨_, rfl, ?_⟩; have n0_ := Aside0.mk (below_step (by repeat (first | (with_reducible first | exact HB.out | apply pA | apply pN | apply pD) | exact HB.out)) hb); clear HB; have HB := n0_; clear n0_; (try clear hb); (try clear hb2); (try clear hk); (try clear hi)) | ((with_reducible refine gate_callee (f := 12) rfl ?_); refine goesL_ (some 14) rfl rfl Tryd.func12 (by kernel_rfl) rfl #[.int .i64 a0, .int .i64 a1] rfl (by (try simp only [List.map_toArray, List.map_cons, List.map_nil]); first | done | rfl | (simp only [List.length_drop, List.length_take]; rfl)) ?_; (with_reducible refine (fsm_Next.calls a0 a1 t662 t663 true _ ?side1 A4.out).mono ?_); (case side1 => exact (HGL.out.below (by repeat (first | (with_reducible first | exact HB.out | apply pA | apply pN | apply pD) | exact HB.out)))); rintro e w11 ⟨v665, rfl, ho0, hb⟩; refine ⟨_, rfl, ?_⟩; have n0_ := Aside0.mk (Kd.R_lower ho0 (below_size (by repeat (first | (with_reducible first | exact HB.out | apply pA | apply pN | apply pD) | exact HB.out)))); have n1_ := Aside0.mk (below_step (by repeat (first | (with_reducible first | exact HB.out | apply pA | apply pN | apply pD) | exact HB.out)) hb); clear HB; have HO666 := n0_; have HB := n1_; clear n0_ n1_; (try clear hb); (try clear hb2); (try clear hk); (try clear hi); (try clear ho0)))
            go_ret
            exact ⟨by first | rfl | (simp [errW_none, errW_some] <;> rfl) | (simp [*, errW_none, errW_some] <;> rfl), by repeat (first | (with_reducible first | exact HB.out | apply pA | apply pN | apply pD) | exact HB.out)⟩
          · rw [if_neg c9] at H
            have c9b0 : (a1 == 6) = false := beq_eq_false_iff_ne.mpr c9
            have c9b1 : (a1 != 6) = true := bne_iff_ne.mpr c9
            by_cases c12 : a0 = 8
            · rw [if_pos c12] at H
              have c12b0 : (a0 == 8) = true := beq_iff_eq.mpr c12
              have c12b1 : (a0 != 8) = false := bne_eq_false_iff_eq.mpr c12
              clear c12
              clear hlaw_
              obtain rfl := Option.some.inj H
              go_enter Tryd.func9, Tryd.ntmps9
              go_wp2_with (first | ((with_reducible refine gate_callee (f := 11) rfl ?_); refine goesL_ (some 10) rfl rfl Tryd.func11 (by kernel_rfl) rfl #[] rfl (by (try simp only [List.map_toArray, List.map_cons, List.map_nil]); first | done | rfl | (simp only [List.length_drop, List.length_take]; rfl)) ?_; (with_reducible refine (portreevelaw11_shown.calls  true _ ?side1 A3.out).mono ?_); (case side1 => exact (HGL.out.below (by repeat (first | (with_reducible first | exact HB.out | apply pA | apply pN | apply pD) | exact HB.out)))); rintro e w13 ⟨rfl, hb⟩; refine ⟨_, rfl, ?_⟩; have n0_ := Aside0.mk (below_step (by repeat (first | (with_reducible first | exact HB.out | apply pA | apply pN | apply pD) | exact HB.out)) hb); clear HB; have HB := n0_; clear n0_; (try clear hb); (try clear hb2); (try clear hk); (try clear hi)) | ((with_reducible refine gate_callee (f := 12) rfl ?_); refine goesL_ (some 14) rfl rfl Tryd.func12 (by kernel_rfl) rfl #[.int .i64 a0, .int .i64 a1] rfl (by (try simp only [List.map_toArray, List.map_cons, List.map_nil]); first | done | rfl | (simp only [List.length_drop, List.length_take]; rfl)) ?_; (with_reducible refine (fsm_Next.calls a0 a1 t662 t663 true _ ?side1 A4.out).mono ?_); (case side1 => exact (HGL.out.below (by repeat (first | (with_reducible first | exact HB.out | apply pA | apply pN | apply pD) | exact HB.out)))); rintro e w14 ⟨v665, rfl, ho0, hb⟩; refine ⟨_, rfl, ?_⟩; have n0_ := Aside0.mk (Kd.R_lower ho0 (below_size (by repeat (first | (with_reducible first | exact HB.out | apply pA | apply pN | apply pD) | exact HB.out)))); have n1_ := Aside0.mk (below_step (by repeat (first | (with_reducible first | exact HB.out | apply pA | apply pN | apply pD) | exact HB.out)) hb); clear HB; have HO666 := n0_; have HB := n1_; clear n0_ n1_; (try clear hb); (try clear hb2); (try clear hk); (try clear hi); (try clear ho0)))
              go_ret
              exact ⟨by first | rfl | (simp [errW_none, errW_some] <;> rfl) | (simp [*, errW_none, errW_some] <;> rfl), by repeat (first | (with_reducible first | exact HB.out | apply pA | apply pN | apply pD) | exact HB.out)⟩
            · rw [if_neg c12] at H
              have c12b0 : (a0 == 8) = false := beq_eq_false_iff_ne.mpr c12
              have c12b1 : (a0 != 8) = true := bne_iff_ne.mpr c12
              clear hlaw_
              obtain rfl := Option.some.inj H
              go_enter Tryd.func9, Tryd.ntmps9
              go_wp2_with (first | ((with_reducible refine gate_callee (f := 11) rfl ?_); refine goesL_ (some 10) rfl rfl Tryd.func11 (by kernel_rfl) rfl #[] rfl (by (try simp only [List.map_toArray, List.map_cons, List.map_nil]); first | done | rfl | (simp only [List.length_drop, List.length_take]; rfl)) ?_; (with_reducible refine (portreevelaw11_shown.calls  true _ ?side1 A3.out).mono ?_); (case side1 => exact (HGL.out.below (by repeat (first | (with_reducible first | exact HB.out | apply pA | apply pN | apply pD) | exact HB.out)))); rintro e w15 ⟨rfl, hb⟩; refine ⟨_, rfl, ?_⟩; have n0_ := Aside0.mk (below_step (by repeat (first | (with_reducible first | exact HB.out | apply pA | apply pN | apply pD) | exact HB.out)) hb); clear HB; have HB := n0_; clear n0_; (try clear hb); (try clear hb2); (try clear hk); (try clear hi)) | ((with_reducible refine gate_callee (f := 12) rfl ?_); refine goesL_ (some 14) rfl rfl Tryd.func12 (by kernel_rfl) rfl #[.int .i64 a0, .int .i64 a1] rfl (by (try simp only [List.map_toArray, List.map_cons, List.map_nil]); first | done | rfl | (simp only [List.length_drop, List.length_take]; rfl)) ?_; (with_reducible refine (fsm_Next.calls a0 a1 t662 t663 true _ ?side1 A4.out).mono ?_); (case side1 => exact (HGL.out.below (by repeat (first | (with_reducible first | exact HB.out | apply pA | apply pN | apply pD) | exact HB.out)))); rintro e w16 ⟨v665, rfl, ho0, hb⟩; refine ⟨_, rfl, ?_⟩; have n0_ := Aside0.mk (Kd.R_lower ho0 (below_size (by repeat (first | (with_reducible first | exact HB.out | apply pA | apply pN | apply pD) | exact HB.out)))); have n1_ := Aside0.mk (below_step (by repeat (first | (with_reducible first | exact HB.out | apply pA | apply pN | apply pD) | exact HB.out)) hb); clear HB; have HO666 := n0_; have HB := n1_; clear n0_ n1_; (try clear hb); (try clear hb2); (try clear hk); (try clear hi); (try clear ho0)))
              go_ret
              exact ⟨by first | rfl | (simp [errW_none, errW_some] <;> rfl) | (simp [*, errW_none, errW_some] <;> rfl), by repeat (first | (with_reducible first | exact HB.out | apply pA | apply pN | apply pD) | exact HB.out)⟩
        · rw [if_neg c8] at H
          have c8b0 : (a0 == 7) = false := beq_eq_false_iff_ne.mpr c8
          have c8b1 : (a0 != 7) = true := bne_iff_ne.mpr c8
          by_cases c17 : a0 = 8
          · rw [if_pos c17] at H
            have c17b0 : (a0 == 8) = true := beq_iff_eq.mpr c17
            have c17b1 : (a0 != 8) = false := bne_eq_false_iff_eq.mpr c17
            clear c17
            clear hlaw_
            obtain rfl := Option.some.inj H
            go_enter Tryd.func9, Tryd.ntmps9
            go_wp2_with (first | ((with_reducible refine gate_callee (f := 11) rfl ?_); refine goesL_ (some 10) rfl rfl Tryd.func11 (by kernel_rfl) rfl #[] rfl (by (try simp only [List.map_toArray, List.map_cons, List.map_nil]); first | done | rfl | (simp only [List.length_drop, List.length_take]; rfl)) ?_; (with_reducible refine (portreevelaw11_shown.calls  true _ ?side1 A3.out).mono ?_); (case side1 => exact (HGL.out.below (by repeat (first | (with_reducible first | exact HB.out | apply pA | apply pN | apply pD) | exact HB.out)))); rintro e w18 ⟨rfl, hb⟩; refine ⟨_, rfl, ?_⟩; have n0_ := Aside0.mk (below_step (by repeat (first | (with_reducible first | exact HB.out | apply pA | apply pN | apply pD) | exact HB.out)) hb); clear HB; have HB := n0_; clear n0_; (try clear hb); (try clear hb2); (try clear hk); (try clear hi)) | ((with_reducible refine gate_callee (f := 12) rfl ?_); refine goesL_ (some 14) rfl rfl Tryd.func12 (by kernel_rfl) rfl #[.int .i64 a0, .int .i64 a1] rfl (by (try simp only [List.map_toArray, List.map_cons, List.map_nil]); first | done | rfl | (simp only [List.length_drop, List.length_take]; rfl)) ?_; (with_reducible refine (fsm_Next.calls a0 a1 t662 t663 true _ ?side1 A4.out).mono ?_); (case side1 => exact (HGL.out.below (by repeat (first | (with_reducible first | exact HB.out | apply pA | apply pN | apply pD) | exact HB.out)))); rintro e w19 ⟨v665, rfl, ho0, hb⟩; refine ⟨_, rfl, ?_⟩; have n0_ := Aside0.mk (Kd.R_lower ho0 (below_size (by repeat (first | (with_reducible first | exact HB.out | apply pA | apply pN | apply pD) | exact HB.out)))); have n1_ := Aside0.mk (below_step (by repeat (first | (with_reducible first | exact HB.out | apply pA | apply pN | apply pD) | exact HB.out)) hb); clear HB; have HO666 := n0_; have HB := n1_; clear n0_ n1_; (try clear hb); (try clear hb2); (try clear hk); (try clear hi); (try clear ho0)))
            go_ret
            exact ⟨by first | rfl | (simp [errW_none, errW_some] <;> rfl) | (simp [*, errW_none, errW_some] <;> rfl), by repeat (first | (with_reducible first | exact HB.out | apply pA | apply pN | apply pD) | exact HB.out)⟩
          · rw [if_neg c17] at H
            have c17b0 : (a0 == 8) = false := beq_eq_false_iff_ne.mpr c17
            have c17b1 : (a0 != 8) = true := bne_iff_ne.mpr c17
            clear hlaw_
            obtain rfl := Option.some.inj H
            go_enter Tryd.func9, Tryd.ntmps9
            go_wp2_with (first | ((with_reducible refine gate_callee (f := 11) rfl ?_); refine goesL_ (some 10) rfl rfl Tryd.func11 (by kernel_rfl) rfl #[] rfl (by (try simp only [List.map_toArray, List.map_cons, List.map_nil]); first | done | rfl | (simp only [List.length_drop, List.length_take]; rfl)) ?_; (with_reducible refine (portreevelaw11_shown.calls  true _ ?side1 A3.out).mono ?_); (case side1 => exact (HGL.out.below (by repeat (first | (with_reducible first | exact HB.out | apply pA | apply pN | apply pD) | exact HB.out)))); rintro e w20 ⟨rfl, hb⟩; refine ⟨_, rfl, ?_⟩; have n0_ := Aside0.mk (below_step (by repeat (first | (with_reducible first | exact HB.out | apply pA | apply pN | apply pD) | exact HB.out)) hb); clear HB; have HB := n0_; clear n0_; (try clear hb); (try clear hb2); (try clear hk); (try clear hi)) | ((with_reducible refine gate_callee (f := 12) rfl ?_); refine goesL_ (some 14) rfl rfl Tryd.func12 (by kernel_rfl) rfl #[.int .i64 a0, .int .i64 a1] rfl (by (try simp only [List.map_toArray, List.map_cons, List.map_nil]); first | done | rfl | (simp only [List.length_drop, List.length_take]; rfl)) ?_; (with_reducible refine (fsm_Next.calls a0 a1 t662 t663 true _ ?side1 A4.out).mono ?_); (case side1 => exact (HGL.out.below (by repeat (first | (with_reducible first | exact HB.out | apply pA | apply pN | apply pD) | exact HB.out)))); rintro e w21 ⟨v665, rfl, ho0, hb⟩; refine ⟨_, rfl, ?_⟩; have n0_ := Aside0.mk (Kd.R_lower ho0 (below_size (by repeat (first | (with_reducible first | exact HB.out | apply pA | apply pN | apply pD) | exact HB.out)))); have n1_ := Aside0.mk (below_step (by repeat (first | (with_reducible first | exact HB.out | apply pA | apply pN | apply pD) | exact HB.out)) hb); clear HB; have HO666 := n0_; have HB := n1_; clear n0_ n1_; (try clear hb); (try clear hb2); (try clear hk); (try clear hi); (try clear ho0)))
            go_ret
            exact ⟨by first | rfl | (simp [errW_none, errW_some] <;> rfl) | (simp [*, errW_none, errW_some] <;> rfl), by repeat (first | (with_reducible first | exact HB.out | apply pA | apply pN | apply pD) | exact HB.out)⟩
      · replace c7 := Bool.eq_false_iff.mpr c7
        subst c7
        have H1 : (some false) = some r := by rw [if_neg (show ¬ (false = true) by decide)] at H; exact H
        clear H
        have H := H1
        clear H1
        exact absurd ((Option.some.inj H).trans hlaw_.out) (by decide)
    · rw [if_neg c6] at H
      have c6b0 : (t663 == 9) = false := beq_eq_false_iff_ne.mpr c6
      have c6b1 : (t663 != 9) = true := bne_iff_ne.mpr c6
      by_cases c22 : t661 = true
      · subst c22
        have H1 : (if a0 = 7 then (if a1 = 6 then (some (false == true)) else (if a0 = 8 then (some (false == (a1 == 8))) else (some (false == false)))) else (if a0 = 8 then (some (false == (a1 == 8))) else (some (false == false)))) = some r := by rw [if_pos rfl] at H; exact H
        clear H
        have H := H1
        clear H1
        by_cases c23 : a0 = 7
        · rw [if_pos c23] at H
          have c23b0 : (a0 == 7) = true := beq_iff_eq.mpr c23
          have c23b1 : (a0 != 7) = false := bne_eq_false_iff_eq.mpr c23
          clear c23
          by_cases c24 : a1 = 6
          · rw [if_pos c24] at H
            have c24b0 : (a1 == 6) = true := beq_iff_eq.mpr c24
            have c24b1 : (a1 != 6) = false := bne_eq_false_iff_eq.mpr c24
            clear c24
            clear hlaw_
            obtain rfl := Option.some.inj H
            go_enter Tryd.func9, Tryd.ntmps9
            go_wp2_with (first | ((with_reducible refine gate_callee (f := 11) rfl ?_); refine goesL_ (some 10) rfl rfl Tryd.func11 (by kernel_rfl) rfl #[] rfl (by (try simp only [List.map_toArray, List.map_cons, List.map_nil]); first | done | rfl | (simp only [List.length_drop, List.length_take]; rfl)) ?_; (with_reducible refine (portreevelaw11_shown.calls  true _ ?side1 A3.out).mono ?_); (case side1 => exact (HGL.out.below (by repeat (first | (with_reducible first | exact HB.out | apply pA | apply pN | apply pD) | exact HB.out)))); rintro e w25 ⟨rfl, hb⟩; refine ⟨_, rfl, ?_⟩; have n0_ := Aside0.mk (below_step (by repeat (first | (with_reducible first | exact HB.out | apply pA | apply pN | apply pD) | exact HB.out)) hb); clear HB; have HB := n0_; clear n0_; (try clear hb); (try clear hb2); (try clear hk); (try clear hi)) | ((with_reducible refine gate_callee (f := 12) rfl ?_); refine goesL_ (some 14) rfl rfl Tryd.func12 (by kernel_rfl) rfl #[.int .i64 a0, .int .i64 a1] rfl (by (try simp only [List.map_toArray, List.map_cons, List.map_nil]); first | done | rfl | (simp only [List.length_drop, List.length_take]; rfl)) ?_; (with_reducible refine (fsm_Next.calls a0 a1 t662 t663 true _ ?side1 A4.out).mono ?_); (case side1 => exact (HGL.out.below (by repeat (first | (with_reducible first | exact HB.out | apply pA | apply pN | apply pD) | exact HB.out)))); rintro e w26 ⟨v665, rfl, ho0, hb⟩; refine ⟨_, rfl, ?_⟩; have n0_ := Aside0.mk (Kd.R_lower ho0 (below_size (by repeat (first | (with_reducible first | exact HB.out | apply pA | apply pN | apply pD) | exact HB.out)))); have n1_ := Aside0.mk (below_step (by repeat (first | (with_reducible first | exact HB.out | apply pA | apply pN | apply pD) | exact HB.out)) hb); clear HB; have HO666 := n0_; have HB := n1_; clear n0_ n1_; (try clear hb); (try clear hb2); (try clear hk); (try clear hi); (try clear ho0)))
            go_ret
            exact ⟨by first | rfl | (simp [errW_none, errW_some] <;> rfl) | (simp [*, errW_none, errW_some] <;> rfl), by repeat (first | (with_reducible first | exact HB.out | apply pA | apply pN | apply pD) | exact HB.out)⟩
          · rw [if_neg c24] at H
            have c24b0 : (a1 == 6) = false := beq_eq_false_iff_ne.mpr c24
            have c24b1 : (a1 != 6) = true := bne_iff_ne.mpr c24
            by_cases c27 : a0 = 8
            · rw [if_pos c27] at H
              have c27b0 : (a0 == 8) = true := beq_iff_eq.mpr c27
              have c27b1 : (a0 != 8) = false := bne_eq_false_iff_eq.mpr c27
              clear c27
              clear hlaw_
              obtain rfl := Option.some.inj H
              go_enter Tryd.func9, Tryd.ntmps9
              go_wp2_with (first | ((with_reducible refine gate_callee (f := 11) rfl ?_); refine goesL_ (some 10) rfl rfl Tryd.func11 (by kernel_rfl) rfl #[] rfl (by (try simp only [List.map_toArray, List.map_cons, List.map_nil]); first | done | rfl | (simp only [List.length_drop, List.length_take]; rfl)) ?_; (with_reducible refine (portreevelaw11_shown.calls  true _ ?side1 A3.out).mono ?_); (case side1 => exact (HGL.out.below (by repeat (first | (with_reducible first | exact HB.out | apply pA | apply pN | apply pD) | exact HB.out)))); rintro e w28 ⟨rfl, hb⟩; refine ⟨_, rfl, ?_⟩; have n0_ := Aside0.mk (below_step (by repeat (first | (with_reducible first | exact HB.out | apply pA | apply pN | apply pD) | exact HB.out)) hb); clear HB; have HB := n0_; clear n0_; (try clear hb); (try clear hb2); (try clear hk); (try clear hi)) | ((with_reducible refine gate_callee (f := 12) rfl ?_); refine goesL_ (some 14) rfl rfl Tryd.func12 (by kernel_rfl) rfl #[.int .i64 a0, .int .i64 a1] rfl (by (try simp only [List.map_toArray, List.map_cons, List.map_nil]); first | done | rfl | (simp only [List.length_drop, List.length_take]; rfl)) ?_; (with_reducible refine (fsm_Next.calls a0 a1 t662 t663 true _ ?side1 A4.out).mono ?_); (case side1 => exact (HGL.out.below (by repeat (first | (with_reducible first | exact HB.out | apply pA | apply pN | apply pD) | exact HB.out)))); rintro e w29 ⟨v665, rfl, ho0, hb⟩; refine ⟨_, rfl, ?_⟩; have n0_ := Aside0.mk (Kd.R_lower ho0 (below_size (by repeat (first | (with_reducible first | exact HB.out | apply pA | apply pN | apply pD) | exact HB.out)))); have n1_ := Aside0.mk (below_step (by repeat (first | (with_reducible first | exact HB.out | apply pA | apply pN | apply pD) | exact HB.out)) hb); clear HB; have HO666 := n0_; have HB := n1_; clear n0_ n1_; (try clear hb); (try clear hb2); (try clear hk); (try clear hi); (try clear ho0)))
              go_ret
              exact ⟨by first | rfl | (simp [errW_none, errW_some] <;> rfl) | (simp [*, errW_none, errW_some] <;> rfl), by repeat (first | (with_reducible first | exact HB.out | apply pA | apply pN | apply pD) | exact HB.out)⟩
            · rw [if_neg c27] at H
              have c27b0 : (a0 == 8) = false := beq_eq_false_iff_ne.mpr c27
              have c27b1 : (a0 != 8) = true := bne_iff_ne.mpr c27
              clear hlaw_
              obtain rfl := Option.some.inj H
              go_enter Tryd.func9, Tryd.ntmps9
              go_wp2_with (first | ((with_reducible refine gate_callee (f := 11) rfl ?_); refine goesL_ (some 10) rfl rfl Tryd.func11 (by kernel_rfl) rfl #[] rfl (by (try simp only [List.map_toArray, List.map_cons, List.map_nil]); first | done | rfl | (simp only [List.length_drop, List.length_take]; rfl)) ?_; (with_reducible refine (portreevelaw11_shown.calls  true _ ?side1 A3.out).mono ?_); (case side1 => exact (HGL.out.below (by repeat (first | (with_reducible first | exact HB.out | apply pA | apply pN | apply pD) | exact HB.out)))); rintro e w30 ⟨rfl, hb⟩; refine ⟨_, rfl, ?_⟩; have n0_ := Aside0.mk (below_step (by repeat (first | (with_reducible first | exact HB.out | apply pA | apply pN | apply pD) | exact HB.out)) hb); clear HB; have HB := n0_; clear n0_; (try clear hb); (try clear hb2); (try clear hk); (try clear hi)) | ((with_reducible refine gate_callee (f := 12) rfl ?_); refine goesL_ (some 14) rfl rfl Tryd.func12 (by kernel_rfl) rfl #[.int .i64 a0, .int .i64 a1] rfl (by (try simp only [List.map_toArray, List.map_cons, List.map_nil]); first | done | rfl | (simp only [List.length_drop, List.length_take]; rfl)) ?_; (with_reducible refine (fsm_Next.calls a0 a1 t662 t663 true _ ?side1 A4.out).mono ?_); (case side1 => exact (HGL.out.below (by repeat (first | (with_reducible first | exact HB.out | apply pA | apply pN | apply pD) | exact HB.out)))); rintro e w31 ⟨v665, rfl, ho0, hb⟩; refine ⟨_, rfl, ?_⟩; have n0_ := Aside0.mk (Kd.R_lower ho0 (below_size (by repeat (first | (with_reducible first | exact HB.out | apply pA | apply pN | apply pD) | exact HB.out)))); have n1_ := Aside0.mk (below_step (by repeat (first | (with_reducible first | exact HB.out | apply pA | apply pN | apply pD) | exact HB.out)) hb); clear HB; have HO666 := n0_; have HB := n1_; clear n0_ n1_; (try clear hb); (try clear hb2); (try clear hk); (try clear hi); (try clear ho0)))
              go_ret
              exact ⟨by first | rfl | (simp [errW_none, errW_some] <;> rfl) | (simp [*, errW_none, errW_some] <;> rfl), by repeat (first | (with_reducible first | exact HB.out | apply pA | apply pN | apply pD) | exact HB.out)⟩
        · rw [if_neg c23] at H
          have c23b0 : (a0 == 7) = false := beq_eq_false_iff_ne.mpr c23
          have c23b1 : (a0 != 7) = true := bne_iff_ne.mpr c23
          by_cases c32 : a0 = 8
          · rw [if_pos c32] at H
            have c32b0 : (a0 == 8) = true := beq_iff_eq.mpr c32
            have c32b1 : (a0 != 8) = false := bne_eq_false_iff_eq.mpr c32
            clear c32
            clear hlaw_
            obtain rfl := Option.some.inj H
            go_enter Tryd.func9, Tryd.ntmps9
            go_wp2_with (first | ((with_reducible refine gate_callee (f := 11) rfl ?_); refine goesL_ (some 10) rfl rfl Tryd.func11 (by kernel_rfl) rfl #[] rfl (by (try simp only [List.map_toArray, List.map_cons, List.map_nil]); first | done | rfl | (simp only [List.length_drop, List.length_take]; rfl)) ?_; (with_reducible refine (portreevelaw11_shown.calls  true _ ?side1 A3.out).mono ?_); (case side1 => exact (HGL.out.below (by repeat (first | (with_reducible first | exact HB.out | apply pA | apply pN | apply pD) | exact HB.out)))); rintro e w33 ⟨rfl, hb⟩; refine ⟨_, rfl, ?_⟩; have n0_ := Aside0.mk (below_step (by repeat (first | (with_reducible first | exact HB.out | apply pA | apply pN | apply pD) | exact HB.out)) hb); clear HB; have HB := n0_; clear n0_; (try clear hb); (try clear hb2); (try clear hk); (try clear hi)) | ((with_reducible refine gate_callee (f := 12) rfl ?_); refine goesL_ (some 14) rfl rfl Tryd.func12 (by kernel_rfl) rfl #[.int .i64 a0, .int .i64 a1] rfl (by (try simp only [List.map_toArray, List.map_cons, List.map_nil]); first | done | rfl | (simp only [List.length_drop, List.length_take]; rfl)) ?_; (with_reducible refine (fsm_Next.calls a0 a1 t662 t663 true _ ?side1 A4.out).mono ?_); (case side1 => exact (HGL.out.below (by repeat (first | (with_reducible first | exact HB.out | apply pA | apply pN | apply pD) | exact HB.out)))); rintro e w34 ⟨v665, rfl, ho0, hb⟩; refine ⟨_, rfl, ?_⟩; have n0_ := Aside0.mk (Kd.R_lower ho0 (below_size (by repeat (first | (with_reducible first | exact HB.out | apply pA | apply pN | apply pD) | exact HB.out)))); have n1_ := Aside0.mk (below_step (by repeat (first | (with_reducible first | exact HB.out | apply pA | apply pN | apply pD) | exact HB.out)) hb); clear HB; have HO666 := n0_; have HB := n1_; clear n0_ n1_; (try clear hb); (try clear hb2); (try clear hk); (try clear hi); (try clear ho0)))
            go_ret
            exact ⟨by first | rfl | (simp [errW_none, errW_some] <;> rfl) | (simp [*, errW_none, errW_some] <;> rfl), by repeat (first | (with_reducible first | exact HB.out | apply pA | apply pN | apply pD) | exact HB.out)⟩
          · rw [if_neg c32] at H
            have c32b0 : (a0 == 8) = false := beq_eq_false_iff_ne.mpr c32
            have c32b1 : (a0 != 8) = true := bne_iff_ne.mpr c32
            clear hlaw_
            obtain rfl := Option.some.inj H
            go_enter Tryd.func9, Tryd.ntmps9
            go_wp2_with (first | ((with_reducible refine gate_callee (f := 11) rfl ?_); refine goesL_ (some 10) rfl rfl Tryd.func11 (by kernel_rfl) rfl #[] rfl (by (try simp only [List.map_toArray, List.map_cons, List.map_nil]); first | done | rfl | (simp only [List.length_drop, List.length_take]; rfl)) ?_; (with_reducible refine (portreevelaw11_shown.calls  true _ ?side1 A3.out).mono ?_); (case side1 => exact (HGL.out.below (by repeat (first | (with_reducible first | exact HB.out | apply pA | apply pN | apply pD) | exact HB.out)))); rintro e w35 ⟨rfl, hb⟩; refine ⟨_, rfl, ?_⟩; have n0_ := Aside0.mk (below_step (by repeat (first | (with_reducible first | exact HB.out | apply pA | apply pN | apply pD) | exact HB.out)) hb); clear HB; have HB := n0_; clear n0_; (try clear hb); (try clear hb2); (try clear hk); (try clear hi)) | ((with_reducible refine gate_callee (f := 12) rfl ?_); refine goesL_ (some 14) rfl rfl Tryd.func12 (by kernel_rfl) rfl #[.int .i64 a0, .int .i64 a1] rfl (by (try simp only [List.map_toArray, List.map_cons, List.map_nil]); first | done | rfl | (simp only [List.length_drop, List.length_take]; rfl)) ?_; (with_reducible refine (fsm_Next.calls a0 a1 t662 t663 true _ ?side1 A4.out).mono ?_); (case side1 => exact (HGL.out.below (by repeat (first | (with_reducible first | exact HB.out | apply pA | apply pN | apply pD) | exact HB.out)))); rintro e w36 ⟨v665, rfl, ho0, hb⟩; refine ⟨_, rfl, ?_⟩; have n0_ := Aside0.mk (Kd.R_lower ho0 (below_size (by repeat (first | (with_reducible first | exact HB.out | apply pA | apply pN | apply pD) | exact HB.out)))); have n1_ := Aside0.mk (below_step (by repeat (first | (with_reducible first | exact HB.out | apply pA | apply pN | apply pD) | exact HB.out)) hb); clear HB; have HO666 := n0_; have HB := n1_; clear n0_ n1_; (try clear hb); (try clear hb2); (try clear hk); (try clear hi); (try clear ho0)))
            go_ret
            exact ⟨by first | rfl | (simp [errW_none, errW_some] <;> rfl) | (simp [*, errW_none, errW_some] <;> rfl), by repeat (first | (with_reducible first | exact HB.out | apply pA | apply pN | apply pD) | exact HB.out)⟩
      · replace c22 := Bool.eq_false_iff.mpr c22
        subst c22
        have H1 : (some false) = some r := by rw [if_neg (show ¬ (false = true) by decide)] at H; exact H
        clear H
        have H := H1
        clear H1
        exact absurd ((Option.some.inj H).trans hlaw_.out) (by decide)
  · replace c5 := Bool.eq_false_iff.mpr c5
    subst c5
    have H1 : (if t661 = true then (if a0 = 7 then (if a1 = 6 then (some (false == true)) else (if a0 = 8 then (some (false == (a1 == 8))) else (some (false == false)))) else (if a0 = 8 then (some (false == (a1 == 8))) else (some (false == false)))) else (some false)) = some r := by rw [if_neg (show ¬ (false = true) by decide)] at H; exact H
    clear H
    have H := H1
    clear H1
    by_cases c37 : t661 = true
    · subst c37
      have H1 : (if a0 = 7 then (if a1 = 6 then (some (false == true)) else (if a0 = 8 then (some (false == (a1 == 8))) else (some (false == false)))) else (if a0 = 8 then (some (false == (a1 == 8))) else (some (false == false)))) = some r := by rw [if_pos rfl] at H; exact H
      clear H
      have H := H1
      clear H1
      by_cases c38 : a0 = 7
      · rw [if_pos c38] at H
        have c38b0 : (a0 == 7) = true := beq_iff_eq.mpr c38
        have c38b1 : (a0 != 7) = false := bne_eq_false_iff_eq.mpr c38
        clear c38
        by_cases c39 : a1 = 6
        · rw [if_pos c39] at H
          have c39b0 : (a1 == 6) = true := beq_iff_eq.mpr c39
          have c39b1 : (a1 != 6) = false := bne_eq_false_iff_eq.mpr c39
          clear c39
          clear hlaw_
          obtain rfl := Option.some.inj H
          go_enter Tryd.func9, Tryd.ntmps9
          go_wp2_with (first | ((with_reducible refine gate_callee (f := 11) rfl ?_); refine goesL_ (some 10) rfl rfl Tryd.func11 (by kernel_rfl) rfl #[] rfl (by (try simp only [List.map_toArray, List.map_cons, List.map_nil]); first | done | rfl | (simp only [List.length_drop, List.length_take]; rfl)) ?_; (with_reducible refine (portreevelaw11_shown.calls  true _ ?side1 A3.out).mono ?_); (case side1 => exact (HGL.out.below (by repeat (first | (with_reducible first | exact HB.out | apply pA | apply pN | apply pD) | exact HB.out)))); rintro e w40 ⟨rfl, hb⟩; refine ⟨_, rfl, ?_⟩; have n0_ := Aside0.mk (below_step (by repeat (first | (with_reducible first | exact HB.out | apply pA | apply pN | apply pD) | exact HB.out)) hb); clear HB; have HB := n0_; clear n0_; (try clear hb); (try clear hb2); (try clear hk); (try clear hi)) | ((with_reducible refine gate_callee (f := 12) rfl ?_); refine goesL_ (some 14) rfl rfl Tryd.func12 (by kernel_rfl) rfl #[.int .i64 a0, .int .i64 a1] rfl (by (try simp only [List.map_toArray, List.map_cons, List.map_nil]); first | done | rfl | (simp only [List.length_drop, List.length_take]; rfl)) ?_; (with_reducible refine (fsm_Next.calls a0 a1 t662 t663 false _ ?side1 A4.out).mono ?_); (case side1 => exact (HGL.out.below (by repeat (first | (with_reducible first | exact HB.out | apply pA | apply pN | apply pD) | exact HB.out)))); rintro e w41 ⟨v665, rfl, ho0, hb⟩; refine ⟨_, rfl, ?_⟩; have n0_ := Aside0.mk (Kd.R_lower ho0 (below_size (by repeat (first | (with_reducible first | exact HB.out | apply pA | apply pN | apply pD) | exact HB.out)))); have n1_ := Aside0.mk (below_step (by repeat (first | (with_reducible first | exact HB.out | apply pA | apply pN | apply pD) | exact HB.out)) hb); clear HB; have HO666 := n0_; have HB := n1_; clear n0_ n1_; (try clear hb); (try clear hb2); (try clear hk); (try clear hi); (try clear ho0)))
          go_ret
          exact ⟨by first | rfl | (simp [errW_none, errW_some] <;> rfl) | (simp [*, errW_none, errW_some] <;> rfl), by repeat (first | (with_reducible first | exact HB.out | apply pA | apply pN | apply pD) | exact HB.out)⟩
        · rw [if_neg c39] at H
          have c39b0 : (a1 == 6) = false := beq_eq_false_iff_ne.mpr c39
          have c39b1 : (a1 != 6) = true := bne_iff_ne.mpr c39
          by_cases c42 : a0 = 8
          · rw [if_pos c42] at H
            have c42b0 : (a0 == 8) = true := beq_iff_eq.mpr c42
            have c42b1 : (a0 != 8) = false := bne_eq_false_iff_eq.mpr c42
            clear c42
            clear hlaw_
            obtain rfl := Option.some.inj H
            go_enter Tryd.func9, Tryd.ntmps9
            go_wp2_with (first | ((with_reducible refine gate_callee (f := 11) rfl ?_); refine goesL_ (some 10) rfl rfl Tryd.func11 (by kernel_rfl) rfl #[] rfl (by (try simp only [List.map_toArray, List.map_cons, List.map_nil]); first | done | rfl | (simp only [List.length_drop, List.length_take]; rfl)) ?_; (with_reducible refine (portreevelaw11_shown.calls  true _ ?side1 A3.out).mono ?_); (case side1 => exact (HGL.out.below (by repeat (first | (with_reducible first | exact HB.out | apply pA | apply pN | apply pD) | exact HB.out)))); rintro e w43 ⟨rfl, hb⟩; refine ⟨_, rfl, ?_⟩; have n0_ := Aside0.mk (below_step (by repeat (first | (with_reducible first | exact HB.out | apply pA | apply pN | apply pD) | exact HB.out)) hb); clear HB; have HB := n0_; clear n0_; (try clear hb); (try clear hb2); (try clear hk); (try clear hi)) | ((with_reducible refine gate_callee (f := 12) rfl ?_); refine goesL_ (some 14) rfl rfl Tryd.func12 (by kernel_rfl) rfl #[.int .i64 a0, .int .i64 a1] rfl (by (try simp only [List.map_toArray, List.map_cons, List.map_nil]); first | done | rfl | (simp only [List.length_drop, List.length_take]; rfl)) ?_; (with_reducible refine (fsm_Next.calls a0 a1 t662 t663 false _ ?side1 A4.out).mono ?_); (case side1 => exact (HGL.out.below (by repeat (first | (with_reducible first | exact HB.out | apply pA | apply pN | apply pD) | exact HB.out)))); rintro e w44 ⟨v665, rfl, ho0, hb⟩; refine ⟨_, rfl, ?_⟩; have n0_ := Aside0.mk (Kd.R_lower ho0 (below_size (by repeat (first | (with_reducible first | exact HB.out | apply pA | apply pN | apply pD) | exact HB.out)))); have n1_ := Aside0.mk (below_step (by repeat (first | (with_reducible first | exact HB.out | apply pA | apply pN | apply pD) | exact HB.out)) hb); clear HB; have HO666 := n0_; have HB := n1_; clear n0_ n1_; (try clear hb); (try clear hb2); (try clear hk); (try clear hi); (try clear ho0)))
            go_ret
            exact ⟨by first | rfl | (simp [errW_none, errW_some] <;> rfl) | (simp [*, errW_none, errW_some] <;> rfl), by repeat (first | (with_reducible first | exact HB.out | apply pA | apply pN | apply pD) | exact HB.out)⟩
          · rw [if_neg c42] at H
            have c42b0 : (a0 == 8) = false := beq_eq_false_iff_ne.mpr c42
            have c42b1 : (a0 != 8) = true := bne_iff_ne.mpr c42
            clear hlaw_
            obtain rfl := Option.some.inj H
            go_enter Tryd.func9, Tryd.ntmps9
            go_wp2_with (first | ((with_reducible refine gate_callee (f := 11) rfl ?_); refine goesL_ (some 10) rfl rfl Tryd.func11 (by kernel_rfl) rfl #[] rfl (by (try simp only [List.map_toArray, List.map_cons, List.map_nil]); first | done | rfl | (simp only [List.length_drop, List.length_take]; rfl)) ?_; (with_reducible refine (portreevelaw11_shown.calls  true _ ?side1 A3.out).mono ?_); (case side1 => exact (HGL.out.below (by repeat (first | (with_reducible first | exact HB.out | apply pA | apply pN | apply pD) | exact HB.out)))); rintro e w45 ⟨rfl, hb⟩; refine ⟨_, rfl, ?_⟩; have n0_ := Aside0.mk (below_step (by repeat (first | (with_reducible first | exact HB.out | apply pA | apply pN | apply pD) | exact HB.out)) hb); clear HB; have HB := n0_; clear n0_; (try clear hb); (try clear hb2); (try clear hk); (try clear hi)) | ((with_reducible refine gate_callee (f := 12) rfl ?_); refine goesL_ (some 14) rfl rfl Tryd.func12 (by kernel_rfl) rfl #[.int .i64 a0, .int .i64 a1] rfl (by (try simp only [List.map_toArray, List.map_cons, List.map_nil]); first | done | rfl | (simp only [List.length_drop, List.length_take]; rfl)) ?_; (with_reducible refine (fsm_Next.calls a0 a1 t662 t663 false _ ?side1 A4.out).mono ?_); (case side1 => exact (HGL.out.below (by repeat (first | (with_reducible first | exact HB.out | apply pA | apply pN | apply pD) | exact HB.out)))); rintro e w46 ⟨v665, rfl, ho0, hb⟩; refine ⟨_, rfl, ?_⟩; have n0_ := Aside0.mk (Kd.R_lower ho0 (below_size (by repeat (first | (with_reducible first | exact HB.out | apply pA | apply pN | apply pD) | exact HB.out)))); have n1_ := Aside0.mk (below_step (by repeat (first | (with_reducible first | exact HB.out | apply pA | apply pN | apply pD) | exact HB.out)) hb); clear HB; have HO666 := n0_; have HB := n1_; clear n0_ n1_; (try clear hb); (try clear hb2); (try clear hk); (try clear hi); (try clear ho0)))
            go_ret
            exact ⟨by first | rfl | (simp [errW_none, errW_some] <;> rfl) | (simp [*, errW_none, errW_some] <;> rfl), by repeat (first | (with_reducible first | exact HB.out | apply pA | apply pN | apply pD) | exact HB.out)⟩
      · rw [if_neg c38] at H
        have c38b0 : (a0 == 7) = false := beq_eq_false_iff_ne.mpr c38
        have c38b1 : (a0 != 7) = true := bne_iff_ne.mpr c38
        by_cases c47 : a0 = 8
        · rw [if_pos c47] at H
          have c47b0 : (a0 == 8) = true := beq_iff_eq.mpr c47
          have c47b1 : (a0 != 8) = false := bne_eq_false_iff_eq.mpr c47
          clear c47
          clear hlaw_
          obtain rfl := Option.some.inj H
          go_enter Tryd.func9, Tryd.ntmps9
          go_wp2_with (first | ((with_reducible refine gate_callee (f := 11) rfl ?_); refine goesL_ (some 10) rfl rfl Tryd.func11 (by kernel_rfl) rfl #[] rfl (by (try simp only [List.map_toArray, List.map_cons, List.map_nil]); first | done | rfl | (simp only [List.length_drop, List.length_take]; rfl)) ?_; (with_reducible refine (portreevelaw11_shown.calls  true _ ?side1 A3.out).mono ?_); (case side1 => exact (HGL.out.below (by repeat (first | (with_reducible first | exact HB.out | apply pA | apply pN | apply pD) | exact HB.out)))); rintro e w48 ⟨rfl, hb⟩; refine ⟨_, rfl, ?_⟩; have n0_ := Aside0.mk (below_step (by repeat (first | (with_reducible first | exact HB.out | apply pA | apply pN | apply pD) | exact HB.out)) hb); clear HB; have HB := n0_; clear n0_; (try clear hb); (try clear hb2); (try clear hk); (try clear hi)) | ((with_reducible refine gate_callee (f := 12) rfl ?_); refine goesL_ (some 14) rfl rfl Tryd.func12 (by kernel_rfl) rfl #[.int .i64 a0, .int .i64 a1] rfl (by (try simp only [List.map_toArray, List.map_cons, List.map_nil]); first | done | rfl | (simp only [List.length_drop, List.length_take]; rfl)) ?_; (with_reducible refine (fsm_Next.calls a0 a1 t662 t663 false _ ?side1 A4.out).mono ?_); (case side1 => exact (HGL.out.below (by repeat (first | (with_reducible first | exact HB.out | apply pA | apply pN | apply pD) | exact HB.out)))); rintro e w49 ⟨v665, rfl, ho0, hb⟩; refine ⟨_, rfl, ?_⟩; have n0_ := Aside0.mk (Kd.R_lower ho0 (below_size (by repeat (first | (with_reducible first | exact HB.out | apply pA | apply pN | apply pD) | exact HB.out)))); have n1_ := Aside0.mk (below_step (by repeat (first | (with_reducible first | exact HB.out | apply pA | apply pN | apply pD) | exact HB.out)) hb); clear HB; have HO666 := n0_; have HB := n1_; clear n0_ n1_; (try clear hb); (try clear hb2); (try clear hk); (try clear hi); (try clear ho0)))
          go_ret
          exact ⟨by first | rfl | (simp [errW_none, errW_some] <;> rfl) | (simp [*, errW_none, errW_some] <;> rfl), by repeat (first | (with_reducible first | exact HB.out | apply pA | apply pN | apply pD) | exact HB.out)⟩
        · rw [if_neg c47] at H
          have c47b0 : (a0 == 8) = false := beq_eq_false_iff_ne.mpr c47
          have c47b1 : (a0 != 8) = true := bne_iff_ne.mpr c47
          clear hlaw_
          obtain rfl := Option.some.inj H
          go_enter Tryd.func9, Tryd.ntmps9
          go_wp2_with (first | ((with_reducible refine gate_callee (f := 11) rfl ?_); refine goesL_ (some 10) rfl rfl Tryd.func11 (by kernel_rfl) rfl #[] rfl (by (try simp only [List.map_toArray, List.map_cons, List.map_nil]); first | done | rfl | (simp only [List.length_drop, List.length_take]; rfl)) ?_; (with_reducible refine (portreevelaw11_shown.calls  true _ ?side1 A3.out).mono ?_); (case side1 => exact (HGL.out.below (by repeat (first | (with_reducible first | exact HB.out | apply pA | apply pN | apply pD) | exact HB.out)))); rintro e w50 ⟨rfl, hb⟩; refine ⟨_, rfl, ?_⟩; have n0_ := Aside0.mk (below_step (by repeat (first | (with_reducible first | exact HB.out | apply pA | apply pN | apply pD) | exact HB.out)) hb); clear HB; have HB := n0_; clear n0_; (try clear hb); (try clear hb2); (try clear hk); (try clear hi)) | ((with_reducible refine gate_callee (f := 12) rfl ?_); refine goesL_ (some 14) rfl rfl Tryd.func12 (by kernel_rfl) rfl #[.int .i64 a0, .int .i64 a1] rfl (by (try simp only [List.map_toArray, List.map_cons, List.map_nil]); first | done | rfl | (simp only [List.length_drop, List.length_take]; rfl)) ?_; (with_reducible refine (fsm_Next.calls a0 a1 t662 t663 false _ ?side1 A4.out).mono ?_); (case side1 => exact (HGL.out.below (by repeat (first | (with_reducible first | exact HB.out | apply pA | apply pN | apply pD) | exact HB.out)))); rintro e w51 ⟨v665, rfl, ho0, hb⟩; refine ⟨_, rfl, ?_⟩; have n0_ := Aside0.mk (Kd.R_lower ho0 (below_size (by repeat (first | (with_reducible first | exact HB.out | apply pA | apply pN | apply pD) | exact HB.out)))); have n1_ := Aside0.mk (below_step (by repeat (first | (with_reducible first | exact HB.out | apply pA | apply pN | apply pD) | exact HB.out)) hb); clear HB; have HO666 := n0_; have HB := n1_; clear n0_ n1_; (try clear hb); (try clear hb2); (try clear hk); (try clear hi); (try clear ho0)))
          go_ret
          exact ⟨by first | rfl | (simp [errW_none, errW_some] <;> rfl) | (simp [*, errW_none, errW_some] <;> rfl), by repeat (first | (with_reducible first | exact HB.out | apply pA | apply pN | apply pD) | exact HB.out)⟩
    · replace c37 := Bool.eq_false_iff.mpr c37
      subst c37
      have H1 : (some false) = some r := by rw [if_neg (show ¬ (false = true) by decide)] at H; exact H
      clear H
      have H := H1
      clear H1
      exact absurd ((Option.some.inj H).trans hlaw_.out) (by decide)

end Go.Proofs.YtdjicabmofbidaaDoor.Q

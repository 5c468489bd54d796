-- written by this session's own program (wip/tools/myprint.py), over the kit's print
import Derived.Test.YtdjicabmofbidaaDoorQx0
import Derived.Test.YtdjicabmofbidaaDoorQx2
import Derived.Test.YtdjicabmofbidaaDoorQx3
import Derived.Test.YtdjicabmofbidaaDoorQx4
import Derived.Test.YtdjicabmofbidaaDoorQx5
import Derived.Test.YtdjicabmofbidaaDoorQx8
namespace Go.Proofs.YtdjicabmofbidaaDoor.Q
open Go.RowKit Go.Proofs.YtdjicabmofbidaaDoorW.PrintWords Go.Proofs.YtdjicabmofbidaaDoorW.PrintLast Go.Proofs.YtdjicabmofbidaaDoorW.PrintMore
open Go.Proofs.YtdjicabmofbidaaDoorV Go.Proofs.YtdjicabmofbidaaDoorG
attribute [local go_sem] max2_int min2_int max_two min_two max_three min_three max_four min_four   -- for this text's walks alone
set_option linter.unusedVariables false
set_option linter.unusedSimpArgs false

/-! ### portreevelaw11_FsmTells: function 3 -/
def portreevelaw11_FsmTells.f (k : Nat) (a0 : Int) (a1 : Int) : Option (Bool) := (portreevelaw11_shown.f).bind fun t579 => ((fsm_Next.f a0 a1).bind fun bt580 => ((portreeveref11_Next.f k a0 a1).bind fun bt585 => (if t579 = true then ((portreeveref11_Ints.f k bt580.1 bt585.1).bind fun t590 => (if t590 = true then (if bt580.2.1 = bt585.2.1 then (if (bt580.2.2 == bt585.2.2) = true then ((fsm_Timed.f a0).bind fun t591 => ((portreeveref11_Timed.f a0).bind fun t592 => (if (t591 == t592) = true then ((fsm_Name.f a0).bind fun t593 => ((portreeveref11_Name.f k a0).bind fun t594 => (some (t593.toList == t594.toList)))) else (some false)))) else (some false)) else (some false)) else (some false))) else (some false))))
theorem portreevelaw11_FsmTells.mono : ∀ a0 a1 k, LeO (portreevelaw11_FsmTells.f k a0 a1) (portreevelaw11_FsmTells.f (k + 1) a0 a1) := by
  intro a0 a1 k
  unfold portreevelaw11_FsmTells.f
  repeat' first
      | (with_reducible exact portreeveref11_Ints.mono _ _ _)
      | (with_reducible exact portreeveref11_Name.mono _ _)
      | (with_reducible exact portreeveref11_Next.mono _ _ _)
      | (with_reducible exact LeO.refl _)
      | (with_reducible exact LeO.none _)
      | (with_reducible refine LeO.ite ?_ ?_)
      | (with_reducible refine LeO.bind ?_ (fun _ => ?_))
      | exact portreeveref11_Ints.mono _ _ _
      | exact portreeveref11_Name.mono _ _
      | exact portreeveref11_Next.mono _ _ _
      | exact LeO.none _
      | refine LeO.ite ?_ ?_
      | refine LeO.bind ?_ (fun _ => ?_)
set_option maxHeartbeats 8000000 in
set_option maxRecDepth 100000 in
theorem portreevelaw11_FsmTells.calls (k : Nat) (a0 : Int) (a1 : Int) (r : Bool) (w : World) (hlaw_ : Aside0 (r = true)) (hgl : Gl w) (h : portreevelaw11_FsmTells.f k a0 a1 = some r) :
    Calls Tryd.prog 3 #[.int .i64 a0, .int .i64 a1] w fun e w' => e = .returned (.bool r) ∧ Below w.heap.size w w' := by
  have HB := Aside0.mk (Below.refl w.heap.size w)
  have HGL := Aside0.mk hgl
  clear hgl
  have H : ((portreevelaw11_shown.f).bind fun t579 => ((fsm_Next.f a0 a1).bind fun bt580 => ((portreeveref11_Next.f k a0 a1).bind fun bt585 => (if t579 = true then ((portreeveref11_Ints.f k bt580.1 bt585.1).bind fun t590 => (if t590 = true then (if bt580.2.1 = bt585.2.1 then (if (bt580.2.2 == bt585.2.2) = true then ((fsm_Timed.f a0).bind fun t591 => ((portreeveref11_Timed.f a0).bind fun t592 => (if (t591 == t592) = true then ((fsm_Name.f a0).bind fun t593 => ((portreeveref11_Name.f k a0).bind fun t594 => (some (t593.toList == t594.toList)))) else (some false)))) else (some false)) else (some false)) else (some false))) else (some false))))) = some r := h
  clear h
  replace H := Option.bind_eq_some_iff.mp H
  obtain ⟨t579, A30, H⟩ := H
  replace H : ((fsm_Next.f a0 a1).bind fun bt580 => ((portreeveref11_Next.f k a0 a1).bind fun bt585 => (if t579 = true then ((portreeveref11_Ints.f k bt580.1 bt585.1).bind fun t590 => (if t590 = true then (if bt580.2.1 = bt585.2.1 then (if (bt580.2.2 == bt585.2.2) = true then ((fsm_Timed.f a0).bind fun t591 => ((portreeveref11_Timed.f a0).bind fun t592 => (if (t591 == t592) = true then ((fsm_Name.f a0).bind fun t593 => ((portreeveref11_Name.f k a0).bind fun t594 => (some (t593.toList == t594.toList)))) else (some false)))) else (some false)) else (some false)) else (some false))) else (some false)))) = some r := H
  have A3 := Aside0.mk A30
  clear A30
  replace H := Option.bind_eq_some_iff.mp H
  obtain ⟨⟨t580, t581, t582⟩, A40, H⟩ := H
  replace H : ((portreeveref11_Next.f k a0 a1).bind fun bt585 => (if t579 = true then ((portreeveref11_Ints.f k t580 bt585.1).bind fun t590 => (if t590 = true then (if t581 = bt585.2.1 then (if (t582 == bt585.2.2) = true then ((fsm_Timed.f a0).bind fun t591 => ((portreeveref11_Timed.f a0).bind fun t592 => (if (t591 == t592) = true then ((fsm_Name.f a0).bind fun t593 => ((portreeveref11_Name.f k a0).bind fun t594 => (some (t593.toList == t594.toList)))) else (some false)))) else (some false)) else (some false)) else (some false))) else (some false))) = some r := H
  have A4 := Aside0.mk A40
  clear A40
  replace H := Option.bind_eq_some_iff.mp H
  obtain ⟨⟨t585, t588, t589⟩, A50, H⟩ := H
  replace H : (if t579 = true then ((portreeveref11_Ints.f k t580 t585).bind fun t590 => (if t590 = true then (if t581 = t588 then (if (t582 == t589) = true then ((fsm_Timed.f a0).bind fun t591 => ((portreeveref11_Timed.f a0).bind fun t592 => (if (t591 == t592) = true then ((fsm_Name.f a0).bind fun t593 => ((portreeveref11_Name.f k a0).bind fun t594 => (some (t593.toList == t594.toList)))) else (some false)))) else (some false)) else (some false)) else (some false))) else (some false)) = some r := H
  have A5 := Aside0.mk A50
  clear A50
  by_cases c6 : t579 = true
  · subst c6
    have H1 : ((portreeveref11_Ints.f k t580 t585).bind fun t590 => (if t590 = true then (if t581 = t588 then (if (t582 == t589) = true then ((fsm_Timed.f a0).bind fun t591 => ((portreeveref11_Timed.f a0).bind fun t592 => (if (t591 == t592) = true then ((fsm_Name.f a0).bind fun t593 => ((portreeveref11_Name.f k a0).bind fun t594 => (some (t593.toList == t594.toList)))) else (some false)))) else (some false)) else (some false)) else (some false))) = some r := by rw [if_pos rfl] at H; exact H
    clear H
    have H := H1
    clear H1
    replace H := Option.bind_eq_some_iff.mp H
    obtain ⟨t590, A70, H⟩ := H
    replace H : (if t590 = true then (if t581 = t588 then (if (t582 == t589) = true then ((fsm_Timed.f a0).bind fun t591 => ((portreeveref11_Timed.f a0).bind fun t592 => (if (t591 == t592) = true then ((fsm_Name.f a0).bind fun t593 => ((portreeveref11_Name.f k a0).bind fun t594 => (some (t593.toList == t594.toList)))) else (some false)))) else (some false)) else (some false)) else (some false)) = some r := H
    have A7 := Aside0.mk A70
    clear A70
    by_cases c8 : t590 = true
    · subst c8
      have H1 : (if t581 = t588 then (if (t582 == t589) = true then ((fsm_Timed.f a0).bind fun t591 => ((portreeveref11_Timed.f a0).bind fun t592 => (if (t591 == t592) = true then ((fsm_Name.f a0).bind fun t593 => ((portreeveref11_Name.f k a0).bind fun t594 => (some (t593.toList == t594.toList)))) else (some false)))) else (some false)) else (some false)) = some r := by rw [if_pos rfl] at H; exact H
      clear H
      have H := H1
      clear H1
      by_cases c9 : t581 = t588
      · rw [if_pos c9] at H
        have c9b0 : (t581 == t588) = true := beq_iff_eq.mpr c9
        have c9b1 : (t581 != t588) = false := bne_eq_false_iff_eq.mpr c9
        clear c9
        by_cases c10 : (t582 == t589) = true
        · rw [if_pos c10] at H
          have c10b0 : (t582 == t589) = true := c10
          (try (have c10b1 : decide (t582 = t589) = true := by simpa using c10))
          (try (have c10b2 : (t582 == t589) = true := by simpa using c10))
          clear c10
          replace H := Option.bind_eq_some_iff.mp H
          obtain ⟨t591, A110, H⟩ := H
          replace H : ((portreeveref11_Timed.f a0).bind fun t592 => (if (t591 == t592) = true then ((fsm_Name.f a0).bind fun t593 => ((portreeveref11_Name.f k a0).bind fun t594 => (some (t593.toList == t594.toList)))) else (some false))) = some r := H
          have A11 := Aside0.mk A110
          clear A110
          replace H := Option.bind_eq_some_iff.mp H
          obtain ⟨t592, A120, H⟩ := H
          replace H : (if (t591 == t592) = true then ((fsm_Name.f a0).bind fun t593 => ((portreeveref11_Name.f k a0).bind fun t594 => (some (t593.toList == t594.toList)))) else (some false)) = some r := H
          have A12 := Aside0.mk A120
          clear A120
          by_cases c13 : (t591 == t592) = true
          · rw [if_pos c13] at H
            have c13b0 : (t591 == t592) = true := c13
            (try (have c13b1 : decide (t591 = t592) = true := by simpa using c13))
            (try (have c13b2 : (t591 == t592) = true := by simpa using c13))
            clear c13
            replace H := Option.bind_eq_some_iff.mp H
            obtain ⟨t593, A140, H⟩ := H
            replace H : ((portreeveref11_Name.f k a0).bind fun t594 => (some (t593.toList == t594.toList))) = some r := H
            have A14 := Aside0.mk A140
            clear A140
            replace H := Option.bind_eq_some_iff.mp H
            obtain ⟨t594, A150, H⟩ := H
            replace H : (some (t593.toList == t594.toList)) = some r := H
            have A15 := Aside0.mk A150
            clear A150
            clear hlaw_
            obtain rfl := Option.some.inj H
            go_enter Tryd.func3, Tryd.ntmps3
            go_wp2_with (first | ((with_reducible refine gate_callee (f := 11) rfl ?_); refine goesL_ (some 12) rfl rfl Tryd.func11 (by kernel_rfl) rfl #[] rfl (by (try simp only [List.map_toArray, List.map_cons, List.map_nil]); first | done | rfl | (simp only [List.length_drop, List.length_take]; rfl)) ?_; (with_reducible refine (portreevelaw11_shown.calls  true _ ?side1 A3.out).mono ?_); (case side1 => exact (HGL.out.below (by repeat (first | (with_reducible first | exact HB.out | apply pA | apply pN | apply pD) | exact HB.out)))); rintro e w16 ⟨rfl, hb⟩; refine ⟨_, rfl, ?_⟩; have n0_ := Aside0.mk (below_step (by repeat (first | (with_reducible first | exact HB.out | apply pA | apply pN | apply pD) | exact HB.out)) hb); clear HB; have HB := n0_; clear n0_; (try clear hb); (try clear hb2); (try clear hk); (try clear hi)) | ((with_reducible refine gate_callee (f := 12) rfl ?_); refine goesL_ (some 16) rfl rfl Tryd.func12 (by kernel_rfl) rfl #[.int .i64 a0, .int .i64 a1] rfl (by (try simp only [List.map_toArray, List.map_cons, List.map_nil]); first | done | rfl | (simp only [List.length_drop, List.length_take]; rfl)) ?_; (with_reducible refine (fsm_Next.calls a0 a1 t580 t581 t582 _ ?side1 A4.out).mono ?_); (case side1 => exact (HGL.out.below (by repeat (first | (with_reducible first | exact HB.out | apply pA | apply pN | apply pD) | exact HB.out)))); rintro e w17 ⟨v583, rfl, ho0, hb⟩; refine ⟨_, rfl, ?_⟩; have n0_ := Aside0.mk (Kd.R_lower ho0 (below_size (by repeat (first | (with_reducible first | exact HB.out | apply pA | apply pN | apply pD) | exact HB.out)))); have n1_ := Aside0.mk (below_step (by repeat (first | (with_reducible first | exact HB.out | apply pA | apply pN | apply pD) | exact HB.out)) hb); clear HB; have HO584 := n0_; have HB := n1_; clear n0_ n1_; (try clear hb); (try clear hb2); (try clear hk); (try clear hi); (try clear ho0)) | ((with_reducible refine gate_callee (f := 13) rfl ?_); refine goesL_ (some 23) rfl rfl Tryd.func13 (by kernel_rfl) rfl #[.int .i64 a0, .int .i64 a1] rfl (by (try simp only [List.map_toArray, List.map_cons, List.map_nil]); first | done | rfl | (simp only [List.length_drop, List.length_take]; rfl)) ?_; (with_reducible refine (portreeveref11_Next.calls k a0 a1 t585 t588 t589 _ A5.out).mono ?_); rintro e w18 ⟨v586, rfl, ho0, hb⟩; refine ⟨_, rfl, ?_⟩; have n0_ := Aside0.mk (Kd.R_below (by (with_reducible repeat (first | apply Kd.R_alloc | apply Kd.R_drewN | apply Kd.R_drew)); exact HO584.out) hb); have n1_ := Aside0.mk (Kd.V_lower (Kd.V_mono (ok' := fun k_ => some k_ ≠ (v583 : Value).ownBlock) ho0 (fun k_ hk_ => (Kd.fresh' (Kd.R_lt (by (with_reducible repeat (first | apply Kd.R_alloc | apply Kd.R_drewN | apply Kd.R_drew)); exact HO584.out)) k_ hk_))) (below_size (by repeat (first | (with_reducible first | exact HB.out | apply pA | apply pN | apply pD) | exact HB.out)))); have n2_ := Aside0.mk (below_step (by repeat (first | (with_reducible first | exact HB.out | apply pA | apply pN | apply pD) | exact HB.out)) hb); clear HO584; clear HB; have HO584 := n0_; have HO587 := n1_; have HB := n2_; clear n0_ n1_ n2_; (try clear hb); (try clear hb2); (try clear hk); (try clear hi); (try clear ho0); obtain ⟨Ao19, co19, eo19⟩ := Kd.R_slice HO584.out; subst eo19; obtain ⟨Ao20, co20, eo20⟩ := Kd.V_slice HO587.out; subst eo20) | (go_at_call 14; (with_reducible refine (portreeveref11_Ints.calls k _ _ t580 _ _ t585 true _ ?side1 ?side2 ?side3 ?side4 A7.out).mono ?_); (case side1 => repeat (first | exact (Kd.R_reads' HO584.out).2.2 | (with_reducible refine Kd.C_alloc ?_ _) | (with_reducible refine Kd.C_drewN ?_ _) | (with_reducible refine Kd.C_drew ?_))); (case side2 => exact (Kd.R_reads' HO584.out).2.1); (case side3 => repeat (first | exact (Kd.V_reads' HO587.out).2.2 | (with_reducible refine Kd.C_alloc ?_ _) | (with_reducible refine Kd.C_drewN ?_ _) | (with_reducible refine Kd.C_drew ?_))); (case side4 => exact (Kd.V_reads' HO587.out).2.1); rintro e w' ⟨rfl, ⟨nd, rfl⟩⟩) | (go_at_call 15; (with_reducible refine (fsm_Timed.calls a0 t591 _ A11.out).mono ?_); rintro e w' ⟨rfl, ⟨nd, rfl⟩⟩) | (go_at_call 16; (with_reducible refine (portreeveref11_Timed.calls a0 t592 _ A12.out).mono ?_); rintro e w' ⟨rfl, ⟨nd, rfl⟩⟩) | (go_at_call 17; (with_reducible refine (fsm_Name.calls a0 t593 _ ?side1 A14.out).mono ?_); (case side1 => exact (HGL.out.below (by repeat (first | (with_reducible first | exact HB.out | apply pA | apply pN | apply pD) | exact HB.out)))); rintro e w21 ⟨rfl, hb⟩; have n0_ := Aside0.mk (Kd.R_below (by (with_reducible repeat (first | apply Kd.R_alloc | apply Kd.R_drewN | apply Kd.R_drew)); exact HO584.out) hb); have n1_ := Aside0.mk (Kd.V_below (by (with_reducible repeat (first | apply Kd.V_alloc | apply Kd.V_drewN | apply Kd.V_drew)); exact HO587.out) hb); have n2_ := Aside0.mk (below_step (by repeat (first | (with_reducible first | exact HB.out | apply pA | apply pN | apply pD) | exact HB.out)) hb); clear HO584; clear HO587; clear HB; have HO584 := n0_; have HO587 := n1_; have HB := n2_; clear n0_ n1_ n2_; (try clear hb); (try clear hb2); (try clear hk); (try clear hi)) | (go_at_call 18; (with_reducible refine (portreeveref11_Name.calls k a0 t594 _ A15.out).mono ?_); rintro e w22 ⟨rfl, hb⟩; have n0_ := Aside0.mk (Kd.R_below (by (with_reducible repeat (first | apply Kd.R_alloc | apply Kd.R_drewN | apply Kd.R_drew)); exact HO584.out) hb); have n1_ := Aside0.mk (Kd.V_below (by (with_reducible repeat (first | apply Kd.V_alloc | apply Kd.V_drewN | apply Kd.V_drew)); exact HO587.out) hb); have n2_ := Aside0.mk (below_step (by repeat (first | (with_reducible first | exact HB.out | apply pA | apply pN | apply pD) | exact HB.out)) hb); clear HO584; clear HO587; clear HB; have HO584 := n0_; have HO587 := n1_; have HB := n2_; clear n0_ n1_ n2_; (try clear hb); (try clear hb2); (try clear hk); (try clear hi)))
            go_ret
            exact ⟨by first | rfl | (simp [errW_none, errW_some] <;> rfl) | (simp [*, errW_none, errW_some] <;> rfl), by repeat (first | (with_reducible first | exact HB.out | apply pA | apply pN | apply pD) | exact HB.out)⟩
          · rw [if_neg c13] at H
            have c13b0 : (t591 == t592) = false := by simpa using c13
            (try (have c13b1 : decide (t591 = t592) = false := by simpa using c13))
            (try (have c13b2 : (t591 == t592) = false := by simpa using c13))
            (try (have c13b3 : ¬ (t591 = t592) := by simpa using c13))
            clear c13
            exact absurd ((Option.some.inj H).trans hlaw_.out) (by decide)
        · rw [if_neg c10] at H
          have c10b0 : (t582 == t589) = false := by simpa using c10
          (try (have c10b1 : decide (t582 = t589) = false := by simpa using c10))
          (try (have c10b2 : (t582 == t589) = false := by simpa using c10))
          (try (have c10b3 : ¬ (t582 = t589) := by simpa using c10))
          clear c10
          exact absurd ((Option.some.inj H).trans hlaw_.out) (by decide)
      · rw [if_neg c9] at H
        have c9b0 : (t581 == t588) = false := beq_eq_false_iff_ne.mpr c9
        have c9b1 : (t581 != t588) = true := bne_iff_ne.mpr c9
        exact absurd ((Option.some.inj H).trans hlaw_.out) (by decide)
    · replace c8 := Bool.eq_false_iff.mpr c8
      subst c8
      have H1 : (some false) = some r := by rw [if_neg (show ¬ (false = true) by decide)] at H; exact H
      clear H
      have H := H1
      clear H1
      exact absurd ((Option.some.inj H).trans hlaw_.out) (by decide)
  · replace c6 := Bool.eq_false_iff.mpr c6
    subst c6
    have H1 : (some false) = some r := by rw [if_neg (show ¬ (false = true) by decide)] at H; exact H
    clear H
    have H := H1
    clear H1
    exact absurd ((Option.some.inj H).trans hlaw_.out) (by decide)

/-! ### portreevelaw11_FsmAll: function 4 -/
mutual
def portreevelaw11_FsmAll.l0 : Nat → Bool → Bool → Int → Option (Bool)
  | 0, _, _, _ => none
  | k + 1, x0, x3, x4 => if x4 ≤ 10 then (portreevelaw11_FsmAll.l1 k x0 x3 x4 (-1)) else (if x3 = true then (if x0 = true then (some true) else (some (!x0))) else (some false))
def portreevelaw11_FsmAll.l1 : Nat → Bool → Bool → Int → Int → Option (Bool)
  | 0, _, _, _, _ => none
  | k + 1, x0, x3, x4, x5 => if x5 ≤ 16 then ((fsm_Next.f x4 x5).bind fun bt596 => ((portreeveref11_Next.f k x4 x5).bind fun bt601 => ((portreeveref11_Ints.f k bt596.1 bt601.1).bind fun t606 => (if t606 = true then (if bt596.2.1 = bt601.2.1 then (portreevelaw11_FsmAll.j2 k x0 x3 x4 x5 (bt596.2.2 != bt601.2.2)) else (portreevelaw11_FsmAll.j2 k x0 x3 x4 x5 true)) else (portreevelaw11_FsmAll.j2 k x0 x3 x4 x5 true))))) else (portreevelaw11_FsmAll.l0 k x0 x3 (wrap64 (x4 + 1)))
def portreevelaw11_FsmAll.j2 : Nat → Bool → Bool → Int → Int → Bool → Option (Bool)
  | 0, _, _, _, _, _ => none
  | k + 1, x0, x3, x4, x5, x48 => if x48 = true then (some false) else (portreevelaw11_FsmAll.l1 k x0 x3 x4 (wrap64 (x5 + 1)))
end
def portreevelaw11_FsmAll.f (k : Nat) (a0 : Bool) : Option (Bool) := (portreevelaw11_shown.f).bind fun t595 => (portreevelaw11_FsmAll.l0 k a0 t595 (-1))
theorem portreevelaw11_FsmAll.mono_l : ∀ k, (∀ y0 y1 y2, LeO (portreevelaw11_FsmAll.l0 k y0 y1 y2) (portreevelaw11_FsmAll.l0 (k + 1) y0 y1 y2)) ∧ (∀ y0 y1 y2 y3, LeO (portreevelaw11_FsmAll.l1 k y0 y1 y2 y3) (portreevelaw11_FsmAll.l1 (k + 1) y0 y1 y2 y3)) ∧ (∀ y0 y1 y2 y3 y4, LeO (portreevelaw11_FsmAll.j2 k y0 y1 y2 y3 y4) (portreevelaw11_FsmAll.j2 (k + 1) y0 y1 y2 y3 y4))
  | 0 => ⟨fun _ _ _ r h => by simp [portreevelaw11_FsmAll.l0] at h, fun _ _ _ _ r h => by simp [portreevelaw11_FsmAll.l1] at h, fun _ _ _ _ _ r h => by simp [portreevelaw11_FsmAll.j2] at h⟩
  | k + 1 => by
    obtain ⟨ih0, ih1, ih2⟩ := portreevelaw11_FsmAll.mono_l k
    refine ⟨?_, ?_, ?_⟩
    · intro y0 y1 y2
      unfold portreevelaw11_FsmAll.l0
      repeat' first
      | (with_reducible exact ih0 _ _ _)
      | (with_reducible exact ih1 _ _ _ _)
      | (with_reducible exact ih2 _ _ _ _ _)
      | (with_reducible exact portreeveref11_Ints.mono _ _ _)
      | (with_reducible exact portreeveref11_Next.mono _ _ _)
      | (with_reducible exact LeO.refl _)
      | (with_reducible exact LeO.none _)
      | (with_reducible refine LeO.ite ?_ ?_)
      | (with_reducible refine LeO.bind ?_ (fun _ => ?_))
      | exact ih0 _ _ _
      | exact ih1 _ _ _ _
      | exact ih2 _ _ _ _ _
      | exact portreeveref11_Ints.mono _ _ _
      | exact portreeveref11_Next.mono _ _ _
      | exact LeO.none _
      | refine LeO.ite ?_ ?_
      | refine LeO.bind ?_ (fun _ => ?_)
    · intro y0 y1 y2 y3
      unfold portreevelaw11_FsmAll.l1
      repeat' first
      | (with_reducible exact ih0 _ _ _)
      | (with_reducible exact ih1 _ _ _ _)
      | (with_reducible exact ih2 _ _ _ _ _)
      | (with_reducible exact portreeveref11_Ints.mono _ _ _)
      | (with_reducible exact portreeveref11_Next.mono _ _ _)
      | (with_reducible exact LeO.refl _)
      | (with_reducible exact LeO.none _)
      | (with_reducible refine LeO.ite ?_ ?_)
      | (with_reducible refine LeO.bind ?_ (fun _ => ?_))
      | exact ih0 _ _ _
      | exact ih1 _ _ _ _
      | exact ih2 _ _ _ _ _
      | exact portreeveref11_Ints.mono _ _ _
      | exact portreeveref11_Next.mono _ _ _
      | exact LeO.none _
      | refine LeO.ite ?_ ?_
      | refine LeO.bind ?_ (fun _ => ?_)
    · intro y0 y1 y2 y3 y4
      unfold portreevelaw11_FsmAll.j2
      repeat' first
      | (with_reducible exact ih0 _ _ _)
      | (with_reducible exact ih1 _ _ _ _)
      | (with_reducible exact ih2 _ _ _ _ _)
      | (with_reducible exact portreeveref11_Ints.mono _ _ _)
      | (with_reducible exact portreeveref11_Next.mono _ _ _)
      | (with_reducible exact LeO.refl _)
      | (with_reducible exact LeO.none _)
      | (with_reducible refine LeO.ite ?_ ?_)
      | (with_reducible refine LeO.bind ?_ (fun _ => ?_))
      | exact ih0 _ _ _
      | exact ih1 _ _ _ _
      | exact ih2 _ _ _ _ _
      | exact portreeveref11_Ints.mono _ _ _
      | exact portreeveref11_Next.mono _ _ _
      | exact LeO.none _
      | refine LeO.ite ?_ ?_
      | refine LeO.bind ?_ (fun _ => ?_)
theorem portreevelaw11_FsmAll.mono : ∀ a0 k, LeO (portreevelaw11_FsmAll.f k a0) (portreevelaw11_FsmAll.f (k + 1) a0) := by
  intro a0 k
  obtain ⟨ih0, ih1, ih2⟩ := portreevelaw11_FsmAll.mono_l k
  unfold portreevelaw11_FsmAll.f
  repeat' first
      | (with_reducible exact ih0 _ _ _)
      | (with_reducible exact ih1 _ _ _ _)
      | (with_reducible exact ih2 _ _ _ _ _)
      | (with_reducible exact portreeveref11_Ints.mono _ _ _)
      | (with_reducible exact portreeveref11_Next.mono _ _ _)
      | (with_reducible exact LeO.refl _)
      | (with_reducible exact LeO.none _)
      | (with_reducible refine LeO.ite ?_ ?_)
      | (with_reducible refine LeO.bind ?_ (fun _ => ?_))
      | exact ih0 _ _ _
      | exact ih1 _ _ _ _
      | exact ih2 _ _ _ _ _
      | exact portreeveref11_Ints.mono _ _ _
      | exact portreeveref11_Next.mono _ _ _
      | exact LeO.none _
      | refine LeO.ite ?_ ?_
      | refine LeO.bind ?_ (fun _ => ?_)
set_option maxHeartbeats 8000000 in
set_option maxRecDepth 100000 in
theorem portreevelaw11_FsmAll.calls (k : Nat) (a0 : Bool) (r : Bool) (w : World) (hlaw_ : Aside0 (r = true)) (hgl : Gl w) (h : portreevelaw11_FsmAll.f k a0 = some r) :
    Calls Tryd.prog 4 #[.bool a0] w fun e w' => e = .returned (.bool r) ∧ Below w.heap.size w w' := by
  have HB := Aside0.mk (Below.refl w.heap.size w)
  have HGL := Aside0.mk hgl
  clear hgl
  have H : ((portreevelaw11_shown.f).bind fun t595 => (portreevelaw11_FsmAll.l0 k a0 t595 (-1))) = some r := h
  clear h
  replace H := Option.bind_eq_some_iff.mp H
  obtain ⟨t595, A20, H⟩ := H
  replace H : (portreevelaw11_FsmAll.l0 k a0 t595 (-1)) = some r := H
  have A2 := Aside0.mk A20
  clear A20
  have H' := Aside0.mk H
  clear H
  go_enter Tryd.func4, Tryd.ntmps4
  go_wp2_with (first | ((with_reducible refine gate_callee (f := 11) rfl ?_); refine goesL_ (some 12) rfl rfl Tryd.func11 (by kernel_rfl) rfl #[] rfl (by (try simp only [List.map_toArray, List.map_cons, List.map_nil]); first | done | rfl | (simp only [List.length_drop, List.length_take]; rfl)) ?_; (with_reducible refine (portreevelaw11_shown.calls  t595 _ ?side1 A2.out).mono ?_); (case side1 => exact (HGL.out.below (by repeat (first | (with_reducible first | exact HB.out | apply pA | apply pN | apply pD) | exact HB.out)))); rintro e w3 ⟨rfl, hb⟩; refine ⟨_, rfl, ?_⟩; have n0_ := Aside0.mk (below_step (by repeat (first | (with_reducible first | exact HB.out | apply pA | apply pN | apply pD) | exact HB.out)) hb); clear HB; have HB := n0_; clear n0_; (try clear hb); (try clear hb2); (try clear hk); (try clear hi)))
  go_loopg [4] k (fun kq v4 w' => ∃ (x4_1 : Int), v4 = .int .i64 x4_1 ∧ Aside0 (portreevelaw11_FsmAll.l0 kq a0 t595 x4_1 = some r) ∧ Aside0 (kq ≤ k) ∧ Aside0 (Below w.heap.size w w'))
  case atStart => exact ⟨((-1)), (by first | rfl | (simp; done) | (simp [*]; done)), H', ⟨Nat.le_refl _⟩, ⟨by repeat (first | (with_reducible first | exact HB.out | apply pA | apply pN | apply pD) | exact HB.out)⟩⟩
  case round =>
    clear H'
    try clear c1
    try clear p2
    obtain ⟨x4_1, rfl, HA, HK1, HB⟩ := hrel
    cases gk with
    | zero => exact absurd HA.out (by simp [portreevelaw11_FsmAll.l0])
    | succ k1 =>
      have H := HA.out
      clear HA
      simp only [portreevelaw11_FsmAll.l0] at H
      by_cases c4 : x4_1 ≤ 10
      · rw [if_pos c4] at H
        have c4b0 : decide (x4_1 ≤ 10) = true := decide_eq_true c4
        clear c4
        have H' := Aside0.mk H
        clear H
        go_wp2
        go_loopg [5] k1 (fun kq v5 w' => ∃ (x5_2 : Int), v5 = .int .i64 x5_2 ∧ Aside0 (portreevelaw11_FsmAll.l1 kq a0 t595 x4_1 x5_2 = some r) ∧ Aside0 (kq ≤ k1) ∧ Aside0 (Below w.heap.size w w'))
        case atStart => exact ⟨((-1)), (by first | rfl | (simp; done) | (simp [*]; done)), H', ⟨Nat.le_refl _⟩, ⟨by repeat (first | (with_reducible first | exact HB.out | apply pA | apply pN | apply pD) | exact HB.out)⟩⟩
        case round =>
          clear H'
          try clear c1
          try clear p2
          try clear c4
          try clear c4b0
          try clear p2
          obtain ⟨x5_2, rfl, HA, HK2, HB⟩ := hrel
          cases gk with
          | zero => exact absurd HA.out (by simp [portreevelaw11_FsmAll.l1])
          | succ k2 =>
            have H := HA.out
            clear HA
            simp only [portreevelaw11_FsmAll.l1] at H
            by_cases c5 : x5_2 ≤ 16
            · rw [if_pos c5] at H
              have c5b0 : decide (x5_2 ≤ 16) = true := decide_eq_true c5
              clear c5
              replace H := Option.bind_eq_some_iff.mp H
              obtain ⟨⟨t596, t597, t598⟩, A60, H⟩ := H
              replace H : ((portreeveref11_Next.f k2 x4_1 x5_2).bind fun bt601 => ((portreeveref11_Ints.f k2 t596 bt601.1).bind fun t606 => (if t606 = true then (if t597 = bt601.2.1 then (portreevelaw11_FsmAll.j2 k2 a0 t595 x4_1 x5_2 (t598 != bt601.2.2)) else (portreevelaw11_FsmAll.j2 k2 a0 t595 x4_1 x5_2 true)) else (portreevelaw11_FsmAll.j2 k2 a0 t595 x4_1 x5_2 true)))) = some r := H
              have A6 := Aside0.mk A60
              clear A60
              replace H := Option.bind_eq_some_iff.mp H
              obtain ⟨⟨t601, t604, t605⟩, A70, H⟩ := H
              replace H : ((portreeveref11_Ints.f k2 t596 t601).bind fun t606 => (if t606 = true then (if t597 = t604 then (portreevelaw11_FsmAll.j2 k2 a0 t595 x4_1 x5_2 (t598 != t605)) else (portreevelaw11_FsmAll.j2 k2 a0 t595 x4_1 x5_2 true)) else (portreevelaw11_FsmAll.j2 k2 a0 t595 x4_1 x5_2 true))) = some r := H
              have A7 := Aside0.mk A70
              clear A70
              have HC8 := Aside0.mk H
              clear H
              go_upto_region 10 with (first | ((with_reducible refine gate_callee (f := 12) rfl ?_); refine goesL_ (some 24) rfl rfl Tryd.func12 (by kernel_rfl) rfl #[.int .i64 x4_1, .int .i64 x5_2] rfl (by (try simp only [List.map_toArray, List.map_cons, List.map_nil]); first | done | rfl | (simp only [List.length_drop, List.length_take]; rfl)) ?_; (with_reducible refine (fsm_Next.calls x4_1 x5_2 t596 t597 t598 _ ?side1 A6.out).mono ?_); (case side1 => exact (HGL.out.below (by repeat (first | (with_reducible first | exact HB.out | apply pA | apply pN | apply pD) | exact HB.out)))); rintro e w9 ⟨v599, rfl, ho0, hb⟩; refine ⟨_, rfl, ?_⟩; have n0_ := Aside0.mk (Kd.R_lower ho0 (below_size (by repeat (first | (with_reducible first | exact HB.out | apply pA | apply pN | apply pD) | exact HB.out)))); have n1_ := Aside0.mk (below_step (by repeat (first | (with_reducible first | exact HB.out | apply pA | apply pN | apply pD) | exact HB.out)) hb); clear HB; have HO600 := n0_; have HB := n1_; clear n0_ n1_; (try clear hb); (try clear hb2); (try clear hk); (try clear hi); (try clear ho0)) | ((with_reducible refine gate_callee (f := 13) rfl ?_); refine goesL_ (some 31) rfl rfl Tryd.func13 (by kernel_rfl) rfl #[.int .i64 x4_1, .int .i64 x5_2] rfl (by (try simp only [List.map_toArray, List.map_cons, List.map_nil]); first | done | rfl | (simp only [List.length_drop, List.length_take]; rfl)) ?_; (with_reducible refine (portreeveref11_Next.calls k2 x4_1 x5_2 t601 t604 t605 _ A7.out).mono ?_); rintro e w10 ⟨v602, rfl, ho0, hb⟩; refine ⟨_, rfl, ?_⟩; have n0_ := Aside0.mk (Kd.R_below (by (with_reducible repeat (first | apply Kd.R_alloc | apply Kd.R_drewN | apply Kd.R_drew)); exact HO600.out) hb); have n1_ := Aside0.mk (Kd.V_lower (Kd.V_mono (ok' := fun k_ => some k_ ≠ (v599 : Value).ownBlock) ho0 (fun k_ hk_ => (Kd.fresh' (Kd.R_lt (by (with_reducible repeat (first | apply Kd.R_alloc | apply Kd.R_drewN | apply Kd.R_drew)); exact HO600.out)) k_ hk_))) (below_size (by repeat (first | (with_reducible first | exact HB.out | apply pA | apply pN | apply pD) | exact HB.out)))); have n2_ := Aside0.mk (below_step (by repeat (first | (with_reducible first | exact HB.out | apply pA | apply pN | apply pD) | exact HB.out)) hb); clear HO600; clear HB; have HO600 := n0_; have HO603 := n1_; have HB := n2_; clear n0_ n1_ n2_; (try clear hb); (try clear hb2); (try clear hk); (try clear hi); (try clear ho0)))
              (try simp only [Act.put, List.setIfInBounds_toArray, List.set_cons_zero, List.set_cons_succ])
              go_cut [48] (fun v48 wc => ∃ (kq : Nat) (x48_7 : Bool), v48 = .bool x48_7 ∧ Aside0 (portreevelaw11_FsmAll.j2 kq a0 t595 x4_1 x5_2 x48_7 = some r) ∧ Aside0 (kq ≤ k2) ∧ Aside0 (Below w.heap.size w wc))
              case first =>
                have H := HC8.out
                clear HC8
                replace H := Option.bind_eq_some_iff.mp H
                obtain ⟨t606, A110, H⟩ := H
                replace H : (if t606 = true then (if t597 = t604 then (portreevelaw11_FsmAll.j2 k2 a0 t595 x4_1 x5_2 (t598 != t605)) else (portreevelaw11_FsmAll.j2 k2 a0 t595 x4_1 x5_2 true)) else (portreevelaw11_FsmAll.j2 k2 a0 t595 x4_1 x5_2 true)) = some r := H
                have A11 := Aside0.mk A110
                clear A110
                by_cases c12 : t606 = true
                · subst c12
                  have H1 : (if t597 = t604 then (portreevelaw11_FsmAll.j2 k2 a0 t595 x4_1 x5_2 (t598 != t605)) else (portreevelaw11_FsmAll.j2 k2 a0 t595 x4_1 x5_2 true)) = some r := by rw [if_pos rfl] at H; exact H
                  clear H
                  have H := H1
                  clear H1
                  by_cases c13 : t597 = t604
                  · rw [if_pos c13] at H
                    have c13b0 : (t597 == t604) = true := beq_iff_eq.mpr c13
                    have c13b1 : (t597 != t604) = false := bne_eq_false_iff_eq.mpr c13
                    clear c13
                    (first | rw [c13b0] | (simp only [i64_w, i32_w]; rw [c13b0]) | skip)
                    have H' := Aside0.mk H
                    clear H
                    obtain ⟨Ao14, co14, eo14⟩ := Kd.R_slice HO600.out
                    subst eo14
                    obtain ⟨Ao15, co15, eo15⟩ := Kd.V_slice HO603.out
                    subst eo15
                    go_wp2_with (first | ((with_reducible refine gate_callee (f := 14) rfl ?_); refine goesL_ (some 37) rfl rfl Tryd.func14 (by kernel_rfl) rfl #[.slice Ao14 t596.length co14, .slice Ao15 t601.length co15] rfl (by (try simp only [List.map_toArray, List.map_cons, List.map_nil]); first | done | rfl | (simp only [List.length_drop, List.length_take]; rfl)) ?_; (with_reducible refine (portreeveref11_Ints.calls k2 _ _ t596 _ _ t601 true _ ?side1 ?side2 ?side3 ?side4 A11.out).mono ?_); (case side1 => repeat (first | exact (Kd.R_reads' HO600.out).2.2 | (with_reducible refine Kd.C_alloc ?_ _) | (with_reducible refine Kd.C_drewN ?_ _) | (with_reducible refine Kd.C_drew ?_))); (case side2 => exact (Kd.R_reads' HO600.out).2.1); (case side3 => repeat (first | exact (Kd.V_reads' HO603.out).2.2 | (with_reducible refine Kd.C_alloc ?_ _) | (with_reducible refine Kd.C_drewN ?_ _) | (with_reducible refine Kd.C_drew ?_))); (case side4 => exact (Kd.V_reads' HO603.out).2.1); rintro e w' ⟨rfl, ⟨nd, rfl⟩⟩; refine ⟨_, rfl, ?_⟩))
                    go_meet
                    case rel => exact ⟨_, ((t598 != t605)), (by first | rfl | (simp; done) | (simp [*]; done)), H', ⟨by have := HK1.out; have := HK2.out; first | omega | exact Nat.le_refl _⟩, ⟨by repeat (first | (with_reducible first | exact HB.out | apply pA | apply pN | apply pD) | exact HB.out)⟩⟩
                  · rw [if_neg c13] at H
                    have c13b0 : (t597 == t604) = false := beq_eq_false_iff_ne.mpr c13
                    have c13b1 : (t597 != t604) = true := bne_iff_ne.mpr c13
                    (first | rw [c13b0] | (simp only [i64_w, i32_w]; rw [c13b0]) | skip)
                    have H' := Aside0.mk H
                    clear H
                    obtain ⟨Ao16, co16, eo16⟩ := Kd.R_slice HO600.out
                    subst eo16
                    obtain ⟨Ao17, co17, eo17⟩ := Kd.V_slice HO603.out
                    subst eo17
                    go_wp2_with (first | ((with_reducible refine gate_callee (f := 14) rfl ?_); refine goesL_ (some 37) rfl rfl Tryd.func14 (by kernel_rfl) rfl #[.slice Ao16 t596.length co16, .slice Ao17 t601.length co17] rfl (by (try simp only [List.map_toArray, List.map_cons, List.map_nil]); first | done | rfl | (simp only [List.length_drop, List.length_take]; rfl)) ?_; (with_reducible refine (portreeveref11_Ints.calls k2 _ _ t596 _ _ t601 true _ ?side1 ?side2 ?side3 ?side4 A11.out).mono ?_); (case side1 => repeat (first | exact (Kd.R_reads' HO600.out).2.2 | (with_reducible refine Kd.C_alloc ?_ _) | (with_reducible refine Kd.C_drewN ?_ _) | (with_reducible refine Kd.C_drew ?_))); (case side2 => exact (Kd.R_reads' HO600.out).2.1); (case side3 => repeat (first | exact (Kd.V_reads' HO603.out).2.2 | (with_reducible refine Kd.C_alloc ?_ _) | (with_reducible refine Kd.C_drewN ?_ _) | (with_reducible refine Kd.C_drew ?_))); (case side4 => exact (Kd.V_reads' HO603.out).2.1); rintro e w' ⟨rfl, ⟨nd, rfl⟩⟩; refine ⟨_, rfl, ?_⟩))
                    go_meet
                    case rel => exact ⟨_, (true), (by first | rfl | (simp; done) | (simp [*]; done)), H', ⟨by have := HK1.out; have := HK2.out; first | omega | exact Nat.le_refl _⟩, ⟨by repeat (first | (with_reducible first | exact HB.out | apply pA | apply pN | apply pD) | exact HB.out)⟩⟩
                · replace c12 := Bool.eq_false_iff.mpr c12
                  subst c12
                  have H1 : (portreevelaw11_FsmAll.j2 k2 a0 t595 x4_1 x5_2 true) = some r := by rw [if_neg (show ¬ (false = true) by decide)] at H; exact H
                  clear H
                  have H := H1
                  clear H1
                  have H' := Aside0.mk H
                  clear H
                  obtain ⟨Ao18, co18, eo18⟩ := Kd.R_slice HO600.out
                  subst eo18
                  obtain ⟨Ao19, co19, eo19⟩ := Kd.V_slice HO603.out
                  subst eo19
                  go_wp2_with (first | ((with_reducible refine gate_callee (f := 14) rfl ?_); refine goesL_ (some 37) rfl rfl Tryd.func14 (by kernel_rfl) rfl #[.slice Ao18 t596.length co18, .slice Ao19 t601.length co19] rfl (by (try simp only [List.map_toArray, List.map_cons, List.map_nil]); first | done | rfl | (simp only [List.length_drop, List.length_take]; rfl)) ?_; (with_reducible refine (portreeveref11_Ints.calls k2 _ _ t596 _ _ t601 false _ ?side1 ?side2 ?side3 ?side4 A11.out).mono ?_); (case side1 => repeat (first | exact (Kd.R_reads' HO600.out).2.2 | (with_reducible refine Kd.C_alloc ?_ _) | (with_reducible refine Kd.C_drewN ?_ _) | (with_reducible refine Kd.C_drew ?_))); (case side2 => exact (Kd.R_reads' HO600.out).2.1); (case side3 => repeat (first | exact (Kd.V_reads' HO603.out).2.2 | (with_reducible refine Kd.C_alloc ?_ _) | (with_reducible refine Kd.C_drewN ?_ _) | (with_reducible refine Kd.C_drew ?_))); (case side4 => exact (Kd.V_reads' HO603.out).2.1); rintro e w' ⟨rfl, ⟨nd, rfl⟩⟩; refine ⟨_, rfl, ?_⟩))
                  go_meet
                  case rel => exact ⟨_, (true), (by first | rfl | (simp; done) | (simp [*]; done)), H', ⟨by have := HK1.out; have := HK2.out; first | omega | exact Nat.le_refl _⟩, ⟨by repeat (first | (with_reducible first | exact HB.out | apply pA | apply pN | apply pD) | exact HB.out)⟩⟩
              case rest =>
                clear HC8
                try clear c1
                try clear p2
                try clear c4
                try clear c4b0
                try clear c5
                try clear c5b0
                try clear c11
                try clear c12
                try clear c13
                try clear c13b0
                try clear c13b1
                try clear c14
                try clear p2
                obtain ⟨kq, x48_7, rfl, HA, HJ7, HB⟩ := hcut
                cases kq with
                | zero => exact absurd HA.out (by simp [portreevelaw11_FsmAll.j2])
                | succ kj7 =>
                  have H := HA.out
                  clear HA
                  simp only [portreevelaw11_FsmAll.j2] at H
                  by_cases c20 : x48_7 = true
                  · subst c20
                    have H1 : (some false) = some r := by rw [if_pos rfl] at H; exact H
                    clear H
                    have H := H1
                    clear H1
                    exact absurd ((Option.some.inj H).trans hlaw_.out) (by decide)
                  · replace c20 := Bool.eq_false_iff.mpr c20
                    subst c20
                    have H1 : (portreevelaw11_FsmAll.l1 kj7 a0 t595 x4_1 (wrap64 (x5_2 + 1))) = some r := by rw [if_neg (show ¬ (false = true) by decide)] at H; exact H
                    clear H
                    have H := H1
                    clear H1
                    have H' := Aside0.mk H
                    clear H
                    go_wp2
                    go_roundg kj7
                    case measure => have := HK1.out; have := HK2.out; have := HJ7.out; omega
                    case rel => exact ⟨(wrap64 (x5_2 + 1)), (by first | rfl | (simp; done) | (simp [*]; done)), H', ⟨by have := HK1.out; have := HK2.out; have := HJ7.out; omega⟩, ⟨by repeat (first | (with_reducible first | exact HB.out | apply pA | apply pN | apply pD) | exact HB.out)⟩⟩
            · rw [if_neg c5] at H
              have c5b0 : decide (x5_2 ≤ 16) = false := decide_eq_false c5
              clear c5
              have H' := Aside0.mk H
              clear H
              go_wp2
              go_roundg k2
              case measure => have := HK1.out; have := HK2.out; omega
              case rel => exact ⟨(wrap64 (x4_1 + 1)), (by first | rfl | (simp; done) | (simp [*]; done)), H', ⟨by have := HK1.out; have := HK2.out; omega⟩, ⟨by repeat (first | (with_reducible first | exact HB.out | apply pA | apply pN | apply pD) | exact HB.out)⟩⟩
      · rw [if_neg c4] at H
        have c4b0 : decide (x4_1 ≤ 10) = false := decide_eq_false c4
        clear c4
        by_cases c21 : t595 = true
        · subst c21
          have H1 : (if a0 = true then (some true) else (some (!a0))) = some r := by rw [if_pos rfl] at H; exact H
          clear H
          have H := H1
          clear H1
          by_cases c22 : a0 = true
          · subst c22
            have H1 : (some true) = some r := by rw [if_pos rfl] at H; exact H
            clear H
            have H := H1
            clear H1
            clear hlaw_
            obtain rfl := Option.some.inj H
            go_wp2
            go_ret
            exact ⟨by first | rfl | (simp [errW_none, errW_some] <;> rfl) | (simp [*, errW_none, errW_some] <;> rfl), by repeat (first | (with_reducible first | exact HB.out | apply pA | apply pN | apply pD) | exact HB.out)⟩
          · replace c22 := Bool.eq_false_iff.mpr c22
            subst c22
            have H1 : (some (!false)) = some r := by rw [if_neg (show ¬ (false = true) by decide)] at H; exact H
            clear H
            have H := H1
            clear H1
            clear hlaw_
            obtain rfl := Option.some.inj H
            go_wp2
            go_ret
            exact ⟨by first | rfl | (simp [errW_none, errW_some] <;> rfl) | (simp [*, errW_none, errW_some] <;> rfl), by repeat (first | (with_reducible first | exact HB.out | apply pA | apply pN | apply pD) | exact HB.out)⟩
        · replace c21 := Bool.eq_false_iff.mpr c21
          subst c21
          have H1 : (some false) = some r := by rw [if_neg (show ¬ (false = true) by decide)] at H; exact H
          clear H
          have H := H1
          clear H1
          exact absurd ((Option.some.inj H).trans hlaw_.out) (by decide)

/-! ### portreeveref11_Has: function 19 -/
def portreeveref11_Has.l0 : Nat → List Int → Int → Int → Option (Bool)
  | 0, _, _, _ => none
  | k + 1, x0, x1, x5 => if x5 < (x0.length : Int) then (if 0 ≤ x5 then (if (rd x0 x5) = x1 then (some true) else (portreeveref11_Has.l0 k x0 x1 (wrap64 (x5 + 1)))) else (none)) else (some false)
def portreeveref11_Has.f (k : Nat) (l0 : List Int) (a1 : Int) : Option (Bool) := portreeveref11_Has.l0 k l0 a1 0
theorem portreeveref11_Has.mono_l : ∀ k, (∀ y0 y1 y2, LeO (portreeveref11_Has.l0 k y0 y1 y2) (portreeveref11_Has.l0 (k + 1) y0 y1 y2))
  | 0 => fun _ _ _ r h => by simp [portreeveref11_Has.l0] at h
  | k + 1 => by
    have ih0 := portreeveref11_Has.mono_l k
    · intro y0 y1 y2
      unfold portreeveref11_Has.l0
      repeat' first
      | (with_reducible exact ih0 _ _ _)
      | (with_reducible exact LeO.refl _)
      | (with_reducible exact LeO.none _)
      | (with_reducible refine LeO.ite ?_ ?_)
      | (with_reducible refine LeO.bind ?_ (fun _ => ?_))
      | exact ih0 _ _ _
      | exact LeO.none _
      | refine LeO.ite ?_ ?_
      | refine LeO.bind ?_ (fun _ => ?_)
theorem portreeveref11_Has.mono : ∀ a0 a1 k, LeO (portreeveref11_Has.f k a0 a1) (portreeveref11_Has.f (k + 1) a0 a1) := by
  intro a0 a1 k
  have ih0 := portreeveref11_Has.mono_l k
  unfold portreeveref11_Has.f
  repeat' first
      | (with_reducible exact ih0 _ _ _)
      | (with_reducible exact LeO.refl _)
      | (with_reducible exact LeO.none _)
      | (with_reducible refine LeO.ite ?_ ?_)
      | (with_reducible refine LeO.bind ?_ (fun _ => ?_))
      | exact ih0 _ _ _
      | exact LeO.none _
      | refine LeO.ite ?_ ?_
      | refine LeO.bind ?_ (fun _ => ?_)
set_option maxHeartbeats 8000000 in
set_option maxRecDepth 100000 in
theorem portreeveref11_Has.calls (k : Nat) (A0 : Option Addr) (c0 : Nat) (l0 : List Int) (a1 : Int) (r : Bool) (w : World) (hr0 : Kd.C (Kd.int .i64) w A0 l0.length l0) (hc0 : l0.length ≤ c0) (h : portreeveref11_Has.f k l0 a1 = some r) :
    Calls Tryd.prog 19 #[.slice A0 l0.length c0, .int .i64 a1] w fun e w' => e = .returned (.bool r) ∧ Drawn0 w w' := by
  have HR0 := Aside0.mk hr0
  have HC0 := Aside0.mk hc0
  clear hr0 hc0
  have H : (portreeveref11_Has.l0 k l0 a1 0) = some r := h
  clear h
  have H' := Aside0.mk H
  clear H
  go_enter Tryd.func19, Tryd.ntmps19
  go_wp2
  go_loopg [5] k (fun kq v5 w' => ∃ (x5_1 : Int), v5 = .int .i64 x5_1 ∧ Aside0 (portreeveref11_Has.l0 kq l0 a1 x5_1 = some r) ∧ Aside0 (kq ≤ k) ∧ Drawn0 w w')
  case atStart => exact ⟨(0), (by first | rfl | (simp; done) | (simp [*]; done)), H', ⟨Nat.le_refl _⟩, by repeat (first | exact Drawn0.refl _ | apply Drawn0.step)⟩
  case round =>
    clear H'
    try clear c1
    try clear p2
    obtain ⟨x5_1, rfl, HA, HK1, ⟨m1, rfl⟩⟩ := hrel
    cases gk with
    | zero => exact absurd HA.out (by simp [portreeveref11_Has.l0])
    | succ k1 =>
      have H := HA.out
      clear HA
      simp only [portreeveref11_Has.l0] at H
      by_cases c3 : x5_1 < (l0.length : Int)
      · rw [if_pos c3] at H
        have c3b0 : decide (x5_1 < (l0.length : Int)) = true := decide_eq_true c3
        clear c3
        by_cases c4 : 0 ≤ x5_1
        · rw [if_pos c4] at H
          have c4b0 : decide (0 ≤ x5_1) = true := decide_eq_true c4
          clear c4
          by_cases c5 : (rd l0 x5_1) = a1
          · rw [if_pos c5] at H
            have c5b0 : ((rd l0 x5_1) == a1) = true := beq_iff_eq.mpr c5
            have c5b1 : ((rd l0 x5_1) != a1) = false := bne_eq_false_iff_eq.mpr c5
            clear c5
            obtain rfl := Option.some.inj H
            have p607 : 0 ≤ (x5_1 : Int) := of_decide_eq_true (by first | (with_reducible assumption) | assumption)
            have q607 : x5_1 < (l0.length : Int) := of_decide_eq_true (by first | (with_reducible assumption) | assumption)
            obtain ⟨ad607, e607, hx607_0⟩ := Kd.at_int HR0.out x5_1 p607 q607
            cases e607
            replace p607 := eq_true p607
            replace q607 := eq_true q607
            go_wp2
            go_ret
            exact ⟨by first | rfl | (simp; done) | (simp [*]; done), by repeat (first | exact Drawn0.refl _ | apply Drawn0.step)⟩
          · rw [if_neg c5] at H
            have c5b0 : ((rd l0 x5_1) == a1) = false := beq_eq_false_iff_ne.mpr c5
            have c5b1 : ((rd l0 x5_1) != a1) = true := bne_iff_ne.mpr c5
            have H' := Aside0.mk H
            clear H
            have p607 : 0 ≤ (x5_1 : Int) := of_decide_eq_true (by first | (with_reducible assumption) | assumption)
            have q607 : x5_1 < (l0.length : Int) := of_decide_eq_true (by first | (with_reducible assumption) | assumption)
            obtain ⟨ad607, e607, hx607_0⟩ := Kd.at_int HR0.out x5_1 p607 q607
            cases e607
            replace p607 := eq_true p607
            replace q607 := eq_true q607
            go_wp2
            go_roundg k1
            case measure => have := HK1.out; omega
            case rel => exact ⟨(wrap64 (x5_1 + 1)), (by first | rfl | (simp; done) | (simp [*]; done)), H', ⟨by have := HK1.out; omega⟩, by repeat (first | exact Drawn0.refl _ | apply Drawn0.step)⟩
        · rw [if_neg c4] at H
          exact absurd H (by simp)
      · rw [if_neg c3] at H
        have c3b0 : decide (x5_1 < (l0.length : Int)) = false := decide_eq_false c3
        clear c3
        obtain rfl := Option.some.inj H
        go_wp2
        go_ret
        exact ⟨by first | rfl | (simp; done) | (simp [*]; done), by repeat (first | exact Drawn0.refl _ | apply Drawn0.step)⟩

end Go.Proofs.YtdjicabmofbidaaDoor.Q

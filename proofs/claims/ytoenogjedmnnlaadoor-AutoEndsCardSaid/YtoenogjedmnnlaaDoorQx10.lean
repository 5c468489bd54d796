-- written by this session's own program (wip/tools/myprint.py), over the kit's print
import Derived.Test.YtoenogjedmnnlaaDoorQx0
import Derived.Test.YtoenogjedmnnlaaDoorQx6
import Derived.Test.YtoenogjedmnnlaaDoorQx7
import Derived.Test.YtoenogjedmnnlaaDoorQx8
import Derived.Test.YtoenogjedmnnlaaDoorQx9
namespace Go.Proofs.YtoenogjedmnnlaaDoor.Q
open Go.RowKit Go.Proofs.YtoenogjedmnnlaaDoorW.PrintWords Go.Proofs.YtoenogjedmnnlaaDoorW.PrintLast Go.Proofs.YtoenogjedmnnlaaDoorW.PrintMore
open Go.Proofs.YtoenogjedmnnlaaDoorV Go.Proofs.YtoenogjedmnnlaaDoorG
attribute [local go_sem] max2_int min2_int max_two min_two max_three min_three max_four min_four   -- for this text's walks alone
set_option linter.unusedVariables false
set_option linter.unusedSimpArgs false

/-! ### portreeveref11_Next: function 27 -/
def portreeveref11_Next.j0 : Nat → Int → Int → Bool → Option (List Int × Int × Bool)
  | 0, _, _, _ => none
  | k + 1, x0, x1, x28 => if x28 = true then ((portreeveref11_never.f x0).bind fun bt522 => (some (bt522.1, bt522.2.1, bt522.2.2))) else (if x1 = 0 then ((portreeveref11_up.f x0).bind fun bt527 => (some (bt527.1, bt527.2.1, bt527.2.2))) else (if x1 = 1 then ((portreeveref11_down.f k x0).bind fun bt532 => (some (bt532.1, bt532.2.1, bt532.2.2))) else (if x1 = 2 then ((portreeveref11_opened.f x0).bind fun bt537 => (some (bt537.1, bt537.2.1, bt537.2.2))) else (if x1 = 3 then ((portreeveref11_closed.f k x0).bind fun bt542 => (some (bt542.1, bt542.2.1, bt542.2.2))) else (if x1 = 4 then ((portreeveref11_timeout.f k x0 true).bind fun bt547 => (some (bt547.1, bt547.2.1, bt547.2.2))) else (if x1 = 5 then ((portreeveref11_timeout.f k x0 false).bind fun bt552 => (some (bt552.1, bt552.2.1, bt552.2.2))) else (if x1 = 6 then ((portreeveref11_request.f k x0 true 8).bind fun bt557 => (some (bt557.1, bt557.2.1, bt557.2.2))) else (if x1 = 7 then ((portreeveref11_request.f k x0 false 9).bind fun bt562 => (some (bt562.1, bt562.2.1, bt562.2.2))) else (if x1 = 8 then ((portreeveref11_answer.f k x0 true).bind fun bt567 => (some (bt567.1, bt567.2.1, bt567.2.2))) else (if x1 = 9 then ((portreeveref11_answer.f k x0 false).bind fun bt572 => (some (bt572.1, bt572.2.1, bt572.2.2))) else (if x1 = 10 then ((portreeveref11_end.f x0).bind fun bt577 => (some (bt577.1, bt577.2.1, bt577.2.2))) else (if x1 = 11 then ((portreeveref11_ended.f x0).bind fun bt582 => (some (bt582.1, bt582.2.1, bt582.2.2))) else (if x1 = 12 then ((portreeveref11_to.f x0 (([12] : List Int))).bind fun bt590 => (some (bt590.1, bt590.2.1, bt590.2.2))) else (if x1 = 13 then ((portreeveref11_reject.f k x0 true).bind fun bt595 => (some (bt595.1, bt595.2.1, bt595.2.2))) else (if x1 = 14 then ((portreeveref11_reject.f k x0 false).bind fun bt600 => (some (bt600.1, bt600.2.1, bt600.2.2))) else (if x0 = 9 then ((portreeveref11_to.f 9 (([13] : List Int))).bind fun bt608 => (some (bt608.1, bt608.2.1, bt608.2.2))) else ((portreeveref11_stay.f x0).bind fun bt613 => (some (bt613.1, bt613.2.1, bt613.2.2)))))))))))))))))))
def portreeveref11_Next.f (k : Nat) (a0 : Int) (a1 : Int) : Option (List Int × Int × Bool) := if a0 < 0 then (portreeveref11_Next.j0 k a0 a1 true) else (if a0 > 9 then (portreeveref11_Next.j0 k a0 a1 true) else (if a1 < 0 then (portreeveref11_Next.j0 k a0 a1 true) else (if a1 > 15 then (portreeveref11_Next.j0 k a0 a1 true) else (if a1 > 5 then (portreeveref11_Next.j0 k a0 a1 (decide (a0 < 2))) else (portreeveref11_Next.j0 k a0 a1 false)))))
theorem portreeveref11_Next.mono_l : ∀ k, (∀ y0 y1 y2, LeO (portreeveref11_Next.j0 k y0 y1 y2) (portreeveref11_Next.j0 (k + 1) y0 y1 y2))
  | 0 => fun _ _ _ r h => by simp [portreeveref11_Next.j0] at h
  | k + 1 => by
    have ih0 := portreeveref11_Next.mono_l k
    · intro y0 y1 y2
      unfold portreeveref11_Next.j0
      repeat' first
      | (with_reducible exact ih0 _ _ _)
      | (with_reducible exact portreeveref11_answer.mono _ _ _)
      | (with_reducible exact portreeveref11_closed.mono _ _)
      | (with_reducible exact portreeveref11_down.mono _ _)
      | (with_reducible exact portreeveref11_reject.mono _ _ _)
      | (with_reducible exact portreeveref11_request.mono _ _ _ _)
      | (with_reducible exact portreeveref11_timeout.mono _ _ _)
      | (with_reducible exact LeO.refl _)
      | (with_reducible exact LeO.none _)
      | (with_reducible refine LeO.ite ?_ ?_)
      | (with_reducible refine LeO.bind ?_ (fun _ => ?_))
      | exact ih0 _ _ _
      | exact portreeveref11_answer.mono _ _ _
      | exact portreeveref11_closed.mono _ _
      | exact portreeveref11_down.mono _ _
      | exact portreeveref11_reject.mono _ _ _
      | exact portreeveref11_request.mono _ _ _ _
      | exact portreeveref11_timeout.mono _ _ _
      | exact LeO.none _
      | refine LeO.ite ?_ ?_
      | refine LeO.bind ?_ (fun _ => ?_)
theorem portreeveref11_Next.mono : ∀ a0 a1 k, LeO (portreeveref11_Next.f k a0 a1) (portreeveref11_Next.f (k + 1) a0 a1) := by
  intro a0 a1 k
  have ih0 := portreeveref11_Next.mono_l k
  unfold portreeveref11_Next.f
  repeat' first
      | (with_reducible exact ih0 _ _ _)
      | (with_reducible exact portreeveref11_answer.mono _ _ _)
      | (with_reducible exact portreeveref11_closed.mono _ _)
      | (with_reducible exact portreeveref11_down.mono _ _)
      | (with_reducible exact portreeveref11_reject.mono _ _ _)
      | (with_reducible exact portreeveref11_request.mono _ _ _ _)
      | (with_reducible exact portreeveref11_timeout.mono _ _ _)
      | (with_reducible exact LeO.refl _)
      | (with_reducible exact LeO.none _)
      | (with_reducible refine LeO.ite ?_ ?_)
      | (with_reducible refine LeO.bind ?_ (fun _ => ?_))
      | exact ih0 _ _ _
      | exact portreeveref11_answer.mono _ _ _
      | exact portreeveref11_closed.mono _ _
      | exact portreeveref11_down.mono _ _
      | exact portreeveref11_reject.mono _ _ _
      | exact portreeveref11_request.mono _ _ _ _
      | exact portreeveref11_timeout.mono _ _ _
      | exact LeO.none _
      | refine LeO.ite ?_ ?_
      | refine LeO.bind ?_ (fun _ => ?_)
set_option maxHeartbeats 8000000 in
set_option maxRecDepth 100000 in
theorem portreeveref11_Next.calls (k : Nat) (a0 : Int) (a1 : Int) (r1 : List Int) (r2 : Int) (r3 : Bool) (w : World) (h : portreeveref11_Next.f k a0 a1 = some (r1, r2, r3)) :
    Calls Tryd.prog 27 #[.int .i64 a0, .int .i64 a1] w fun e w' => ∃ v0_ : Value, e = .returned (.tuple #[v0_, .int .i64 r2, .bool r3]) ∧ Kd.V (Kd.int .i64) 3 w' w.heap.size (fun k_ => (w.heap.size ≤ k_)) v0_ r1 ∧ Below w.heap.size w w' := by
  have HB := Aside0.mk (Below.refl w.heap.size w)
  have H : (if a0 < 0 then (portreeveref11_Next.j0 k a0 a1 true) else (if a0 > 9 then (portreeveref11_Next.j0 k a0 a1 true) else (if a1 < 0 then (portreeveref11_Next.j0 k a0 a1 true) else (if a1 > 15 then (portreeveref11_Next.j0 k a0 a1 true) else (if a1 > 5 then (portreeveref11_Next.j0 k a0 a1 (decide (a0 < 2))) else (portreeveref11_Next.j0 k a0 a1 false)))))) = some (r1, r2, r3) := h
  clear h
  have HC3 := Aside0.mk H
  clear H
  go_enter Tryd.func27, Tryd.ntmps27
  go_upto_region 1 with (fail)
  go_cut [28] (fun v28 wc => ∃ (kq : Nat) (x28_2 : Bool), v28 = .bool x28_2 ∧ Aside0 (portreeveref11_Next.j0 kq a0 a1 x28_2 = some (r1, r2, r3)) ∧ Aside0 (kq ≤ k) ∧ Aside0 (Below w.heap.size w wc))
  case first =>
    have H := HC3.out
    clear HC3
    by_cases c4 : a0 < 0
    · rw [if_pos c4] at H
      have c4b0 : decide (a0 < 0) = true := decide_eq_true c4
      clear c4
      (first | rw [c4b0] | (simp only [i64_w, i32_w]; rw [c4b0]) | skip)
      have H' := Aside0.mk H
      clear H
      go_wp2
      go_meet
      case rel => exact ⟨_, (true), (by first | rfl | (simp; done) | (simp [*]; done)), H', ⟨by first | omega | exact Nat.le_refl _⟩, ⟨by repeat (first | (with_reducible first | exact HB.out | apply pA | apply pN | apply pD) | exact HB.out)⟩⟩
    · rw [if_neg c4] at H
      have c4b0 : decide (a0 < 0) = false := decide_eq_false c4
      clear c4
      (first | rw [c4b0] | (simp only [i64_w, i32_w]; rw [c4b0]) | skip)
      by_cases c5 : a0 > 9
      · rw [if_pos c5] at H
        have c5b0 : decide (9 < a0) = true := decide_eq_true c5
        clear c5
        have H' := Aside0.mk H
        clear H
        go_wp2
        go_meet
        case rel => exact ⟨_, (true), (by first | rfl | (simp; done) | (simp [*]; done)), H', ⟨by first | omega | exact Nat.le_refl _⟩, ⟨by repeat (first | (with_reducible first | exact HB.out | apply pA | apply pN | apply pD) | exact HB.out)⟩⟩
      · rw [if_neg c5] at H
        have c5b0 : decide (9 < a0) = false := decide_eq_false c5
        clear c5
        by_cases c6 : a1 < 0
        · rw [if_pos c6] at H
          have c6b0 : decide (a1 < 0) = true := decide_eq_true c6
          clear c6
          have H' := Aside0.mk H
          clear H
          go_wp2
          go_meet
          case rel => exact ⟨_, (true), (by first | rfl | (simp; done) | (simp [*]; done)), H', ⟨by first | omega | exact Nat.le_refl _⟩, ⟨by repeat (first | (with_reducible first | exact HB.out | apply pA | apply pN | apply pD) | exact HB.out)⟩⟩
        · rw [if_neg c6] at H
          have c6b0 : decide (a1 < 0) = false := decide_eq_false c6
          clear c6
          by_cases c7 : a1 > 15
          · rw [if_pos c7] at H
            have c7b0 : decide (15 < a1) = true := decide_eq_true c7
            clear c7
            have H' := Aside0.mk H
            clear H
            go_wp2
            go_meet
            case rel => exact ⟨_, (true), (by first | rfl | (simp; done) | (simp [*]; done)), H', ⟨by first | omega | exact Nat.le_refl _⟩, ⟨by repeat (first | (with_reducible first | exact HB.out | apply pA | apply pN | apply pD) | exact HB.out)⟩⟩
          · rw [if_neg c7] at H
            have c7b0 : decide (15 < a1) = false := decide_eq_false c7
            clear c7
            by_cases c8 : a1 > 5
            · rw [if_pos c8] at H
              have c8b0 : decide (5 < a1) = true := decide_eq_true c8
              clear c8
              have H' := Aside0.mk H
              clear H
              go_wp2
              go_meet
              case rel => exact ⟨_, (decide (a0 < 2)), (by first | rfl | (simp; done) | (simp [*]; done)), H', ⟨by first | omega | exact Nat.le_refl _⟩, ⟨by repeat (first | (with_reducible first | exact HB.out | apply pA | apply pN | apply pD) | exact HB.out)⟩⟩
            · rw [if_neg c8] at H
              have c8b0 : decide (5 < a1) = false := decide_eq_false c8
              clear c8
              have H' := Aside0.mk H
              clear H
              go_wp2
              go_meet
              case rel => exact ⟨_, (false), (by first | rfl | (simp; done) | (simp [*]; done)), H', ⟨by first | omega | exact Nat.le_refl _⟩, ⟨by repeat (first | (with_reducible first | exact HB.out | apply pA | apply pN | apply pD) | exact HB.out)⟩⟩
  case rest =>
    clear HC3
    try clear c2
    try clear p2
    try clear c4
    try clear c4b0
    try clear c5
    try clear c5b0
    try clear c6
    try clear c6b0
    try clear c7
    try clear c7b0
    try clear c8
    try clear c8b0
    obtain ⟨kq, x28_2, rfl, HA, HJ2, HB⟩ := hcut
    cases kq with
    | zero => exact absurd HA.out (by simp [portreeveref11_Next.j0])
    | succ kj2 =>
      have H := HA.out
      clear HA
      simp only [portreeveref11_Next.j0] at H
      by_cases c9 : x28_2 = true
      · subst c9
        have H1 : ((portreeveref11_never.f a0).bind fun bt522 => (some (bt522.1, bt522.2.1, bt522.2.2))) = some (r1, r2, r3) := by rw [if_pos rfl] at H; exact H
        clear H
        have H := H1
        clear H1
        replace H := Option.bind_eq_some_iff.mp H
        obtain ⟨⟨t522, t523, t524⟩, A100, H⟩ := H
        replace H : (some (t522, t523, t524)) = some (r1, r2, r3) := H
        have A10 := Aside0.mk A100
        clear A100
        simp only [Option.some.injEq, Prod.mk.injEq] at H
        obtain ⟨rfl, rfl, rfl⟩ := H
        go_wp2_with (first | ((with_reducible refine gate_callee (f := 32) rfl ?_); refine goesL_ (some 30) rfl rfl Tryd.func32 (by kernel_rfl) rfl #[.int .i64 a0] rfl (by (try simp only [List.map_toArray, List.map_cons, List.map_nil]); first | done | rfl | (simp only [List.length_drop, List.length_take]; rfl)) ?_; (with_reducible refine (portreeveref11_never.calls a0 t522 t523 t524 _ A10.out).mono ?_); rintro e w11 ⟨v525, rfl, ho0, hb⟩; refine ⟨_, rfl, ?_⟩; have n0_ := Aside0.mk (Kd.R_lower (Kd.R_newM (M := fun k_ => (w.heap.size ≤ k_)) ho0 (below_size (by repeat (first | (with_reducible first | exact HB.out | apply pA | apply pN | apply pD) | exact HB.out))) (fun k_ h_ => h_)) (below_size (by repeat (first | (with_reducible first | exact HB.out | apply pA | apply pN | apply pD) | exact HB.out)))); have n1_ := Aside0.mk (below_step (by repeat (first | (with_reducible first | exact HB.out | apply pA | apply pN | apply pD) | exact HB.out)) hb); clear HB; have HO526 := n0_; have HB := n1_; clear n0_ n1_; (try clear hb); (try clear hb2); (try clear hk); (try clear hi); (try clear ho0)))
        go_ret3
        exact ⟨_, by first | rfl | (simp [errW_none, errW_some] <;> rfl) | (simp [*, errW_none, errW_some] <;> rfl), Kd.R_V (by (with_reducible repeat (first | apply Kd.R_alloc | apply Kd.R_drewN | apply Kd.R_drew)); exact Kd.R_mono HO526.out (fun _ hk => hk.1)), by repeat (first | (with_reducible first | exact HB.out | apply pA | apply pN | apply pD) | exact HB.out)⟩
      · replace c9 := Bool.eq_false_iff.mpr c9
        subst c9
        have H1 : (if a1 = 0 then ((portreeveref11_up.f a0).bind fun bt527 => (some (bt527.1, bt527.2.1, bt527.2.2))) else (if a1 = 1 then ((portreeveref11_down.f kj2 a0).bind fun bt532 => (some (bt532.1, bt532.2.1, bt532.2.2))) else (if a1 = 2 then ((portreeveref11_opened.f a0).bind fun bt537 => (some (bt537.1, bt537.2.1, bt537.2.2))) else (if a1 = 3 then ((portreeveref11_closed.f kj2 a0).bind fun bt542 => (some (bt542.1, bt542.2.1, bt542.2.2))) else (if a1 = 4 then ((portreeveref11_timeout.f kj2 a0 true).bind fun bt547 => (some (bt547.1, bt547.2.1, bt547.2.2))) else (if a1 = 5 then ((portreeveref11_timeout.f kj2 a0 false).bind fun bt552 => (some (bt552.1, bt552.2.1, bt552.2.2))) else (if a1 = 6 then ((portreeveref11_request.f kj2 a0 true 8).bind fun bt557 => (some (bt557.1, bt557.2.1, bt557.2.2))) else (if a1 = 7 then ((portreeveref11_request.f kj2 a0 false 9).bind fun bt562 => (some (bt562.1, bt562.2.1, bt562.2.2))) else (if a1 = 8 then ((portreeveref11_answer.f kj2 a0 true).bind fun bt567 => (some (bt567.1, bt567.2.1, bt567.2.2))) else (if a1 = 9 then ((portreeveref11_answer.f kj2 a0 false).bind fun bt572 => (some (bt572.1, bt572.2.1, bt572.2.2))) else (if a1 = 10 then ((portreeveref11_end.f a0).bind fun bt577 => (some (bt577.1, bt577.2.1, bt577.2.2))) else (if a1 = 11 then ((portreeveref11_ended.f a0).bind fun bt582 => (some (bt582.1, bt582.2.1, bt582.2.2))) else (if a1 = 12 then ((portreeveref11_to.f a0 (([12] : List Int))).bind fun bt590 => (some (bt590.1, bt590.2.1, bt590.2.2))) else (if a1 = 13 then ((portreeveref11_reject.f kj2 a0 true).bind fun bt595 => (some (bt595.1, bt595.2.1, bt595.2.2))) else (if a1 = 14 then ((portreeveref11_reject.f kj2 a0 false).bind fun bt600 => (some (bt600.1, bt600.2.1, bt600.2.2))) else (if a0 = 9 then ((portreeveref11_to.f 9 (([13] : List Int))).bind fun bt608 => (some (bt608.1, bt608.2.1, bt608.2.2))) else ((portreeveref11_stay.f a0).bind fun bt613 => (some (bt613.1, bt613.2.1, bt613.2.2))))))))))))))))))) = some (r1, r2, r3) := by rw [if_neg (show ¬ (false = true) by decide)] at H; exact H
        clear H
        have H := H1
        clear H1
        by_cases c12 : a1 = 0
        · rw [if_pos c12] at H
          have c12b0 : (a1 == 0) = true := beq_iff_eq.mpr c12
          have c12b1 : (a1 != 0) = false := bne_eq_false_iff_eq.mpr c12
          clear c12
          replace H := Option.bind_eq_some_iff.mp H
          obtain ⟨⟨t527, t530, t531⟩, A130, H⟩ := H
          replace H : (some (t527, t530, t531)) = some (r1, r2, r3) := H
          have A13 := Aside0.mk A130
          clear A130
          simp only [Option.some.injEq, Prod.mk.injEq] at H
          obtain ⟨rfl, rfl, rfl⟩ := H
          go_wp2_with (first | ((with_reducible refine gate_callee (f := 33) rfl ?_); refine goesL_ (some 38) rfl rfl Tryd.func33 (by kernel_rfl) rfl #[.int .i64 a0] rfl (by (try simp only [List.map_toArray, List.map_cons, List.map_nil]); first | done | rfl | (simp only [List.length_drop, List.length_take]; rfl)) ?_; (with_reducible refine (portreeveref11_up.calls a0 t527 t530 t531 _ A13.out).mono ?_); rintro e w14 ⟨v528, rfl, ho0, hb⟩; refine ⟨_, rfl, ?_⟩; have n0_ := Aside0.mk (Kd.V_lower (Kd.V_mono (ok' := fun k_ => (w.heap.size ≤ k_)) ho0 (fun k_ hk_ => (Nat.le_trans (below_size (by repeat (first | (with_reducible first | exact HB.out | apply pA | apply pN | apply pD) | exact HB.out))) hk_))) (below_size (by repeat (first | (with_reducible first | exact HB.out | apply pA | apply pN | apply pD) | exact HB.out)))); have n1_ := Aside0.mk (below_step (by repeat (first | (with_reducible first | exact HB.out | apply pA | apply pN | apply pD) | exact HB.out)) hb); clear HB; have HO529 := n0_; have HB := n1_; clear n0_ n1_; (try clear hb); (try clear hb2); (try clear hk); (try clear hi); (try clear ho0)))
          go_ret3
          exact ⟨_, by first | rfl | (simp [errW_none, errW_some] <;> rfl) | (simp [*, errW_none, errW_some] <;> rfl), by (with_reducible repeat (first | apply Kd.V_alloc | apply Kd.V_drewN | apply Kd.V_drew)); exact HO529.out, by repeat (first | (with_reducible first | exact HB.out | apply pA | apply pN | apply pD) | exact HB.out)⟩
        · rw [if_neg c12] at H
          have c12b0 : (a1 == 0) = false := beq_eq_false_iff_ne.mpr c12
          have c12b1 : (a1 != 0) = true := bne_iff_ne.mpr c12
          by_cases c15 : a1 = 1
          · rw [if_pos c15] at H
            have c15b0 : (a1 == 1) = true := beq_iff_eq.mpr c15
            have c15b1 : (a1 != 1) = false := bne_eq_false_iff_eq.mpr c15
            clear c15
            replace H := Option.bind_eq_some_iff.mp H
            obtain ⟨⟨t532, t535, t536⟩, A160, H⟩ := H
            replace H : (some (t532, t535, t536)) = some (r1, r2, r3) := H
            have A16 := Aside0.mk A160
            clear A160
            simp only [Option.some.injEq, Prod.mk.injEq] at H
            obtain ⟨rfl, rfl, rfl⟩ := H
            go_wp2_with (first | ((with_reducible refine gate_callee (f := 34) rfl ?_); refine goesL_ (some 45) rfl rfl Tryd.func34 (by kernel_rfl) rfl #[.int .i64 a0] rfl (by (try simp only [List.map_toArray, List.map_cons, List.map_nil]); first | done | rfl | (simp only [List.length_drop, List.length_take]; rfl)) ?_; (with_reducible refine (portreeveref11_down.calls kj2 a0 t532 t535 t536 _ A16.out).mono ?_); rintro e w17 ⟨v533, rfl, ho0, hb⟩; refine ⟨_, rfl, ?_⟩; have n0_ := Aside0.mk (Kd.V_lower (Kd.V_mono (ok' := fun k_ => (w.heap.size ≤ k_)) ho0 (fun k_ hk_ => (Nat.le_trans (below_size (by repeat (first | (with_reducible first | exact HB.out | apply pA | apply pN | apply pD) | exact HB.out))) hk_))) (below_size (by repeat (first | (with_reducible first | exact HB.out | apply pA | apply pN | apply pD) | exact HB.out)))); have n1_ := Aside0.mk (below_step (by repeat (first | (with_reducible first | exact HB.out | apply pA | apply pN | apply pD) | exact HB.out)) hb); clear HB; have HO534 := n0_; have HB := n1_; clear n0_ n1_; (try clear hb); (try clear hb2); (try clear hk); (try clear hi); (try clear ho0)))
            go_ret3
            exact ⟨_, by first | rfl | (simp [errW_none, errW_some] <;> rfl) | (simp [*, errW_none, errW_some] <;> rfl), by (with_reducible repeat (first | apply Kd.V_alloc | apply Kd.V_drewN | apply Kd.V_drew)); exact HO534.out, by repeat (first | (with_reducible first | exact HB.out | apply pA | apply pN | apply pD) | exact HB.out)⟩
          · rw [if_neg c15] at H
            have c15b0 : (a1 == 1) = false := beq_eq_false_iff_ne.mpr c15
            have c15b1 : (a1 != 1) = true := bne_iff_ne.mpr c15
            by_cases c18 : a1 = 2
            · rw [if_pos c18] at H
              have c18b0 : (a1 == 2) = true := beq_iff_eq.mpr c18
              have c18b1 : (a1 != 2) = false := bne_eq_false_iff_eq.mpr c18
              clear c18
              replace H := Option.bind_eq_some_iff.mp H
              obtain ⟨⟨t537, t540, t541⟩, A190, H⟩ := H
              replace H : (some (t537, t540, t541)) = some (r1, r2, r3) := H
              have A19 := Aside0.mk A190
              clear A190
              simp only [Option.some.injEq, Prod.mk.injEq] at H
              obtain ⟨rfl, rfl, rfl⟩ := H
              go_wp2_with (first | ((with_reducible refine gate_callee (f := 35) rfl ?_); refine goesL_ (some 52) rfl rfl Tryd.func35 (by kernel_rfl) rfl #[.int .i64 a0] rfl (by (try simp only [List.map_toArray, List.map_cons, List.map_nil]); first | done | rfl | (simp only [List.length_drop, List.length_take]; rfl)) ?_; (with_reducible refine (portreeveref11_opened.calls a0 t537 t540 t541 _ A19.out).mono ?_); rintro e w20 ⟨v538, rfl, ho0, hb⟩; refine ⟨_, rfl, ?_⟩; have n0_ := Aside0.mk (Kd.V_lower (Kd.V_mono (ok' := fun k_ => (w.heap.size ≤ k_)) ho0 (fun k_ hk_ => (Nat.le_trans (below_size (by repeat (first | (with_reducible first | exact HB.out | apply pA | apply pN | apply pD) | exact HB.out))) hk_))) (below_size (by repeat (first | (with_reducible first | exact HB.out | apply pA | apply pN | apply pD) | exact HB.out)))); have n1_ := Aside0.mk (below_step (by repeat (first | (with_reducible first | exact HB.out | apply pA | apply pN | apply pD) | exact HB.out)) hb); clear HB; have HO539 := n0_; have HB := n1_; clear n0_ n1_; (try clear hb); (try clear hb2); (try clear hk); (try clear hi); (try clear ho0)))
              go_ret3
              exact ⟨_, by first | rfl | (simp [errW_none, errW_some] <;> rfl) | (simp [*, errW_none, errW_some] <;> rfl), by (with_reducible repeat (first | apply Kd.V_alloc | apply Kd.V_drewN | apply Kd.V_drew)); exact HO539.out, by repeat (first | (with_reducible first | exact HB.out | apply pA | apply pN | apply pD) | exact HB.out)⟩
            · rw [if_neg c18] at H
              have c18b0 : (a1 == 2) = false := beq_eq_false_iff_ne.mpr c18
              have c18b1 : (a1 != 2) = true := bne_iff_ne.mpr c18
              by_cases c21 : a1 = 3
              · rw [if_pos c21] at H
                have c21b0 : (a1 == 3) = true := beq_iff_eq.mpr c21
                have c21b1 : (a1 != 3) = false := bne_eq_false_iff_eq.mpr c21
                clear c21
                replace H := Option.bind_eq_some_iff.mp H
                obtain ⟨⟨t542, t545, t546⟩, A220, H⟩ := H
                replace H : (some (t542, t545, t546)) = some (r1, r2, r3) := H
                have A22 := Aside0.mk A220
                clear A220
                simp only [Option.some.injEq, Prod.mk.injEq] at H
                obtain ⟨rfl, rfl, rfl⟩ := H
                go_wp2_with (first | ((with_reducible refine gate_callee (f := 36) rfl ?_); refine goesL_ (some 59) rfl rfl Tryd.func36 (by kernel_rfl) rfl #[.int .i64 a0] rfl (by (try simp only [List.map_toArray, List.map_cons, List.map_nil]); first | done | rfl | (simp only [List.length_drop, List.length_take]; rfl)) ?_; (with_reducible refine (portreeveref11_closed.calls kj2 a0 t542 t545 t546 _ A22.out).mono ?_); rintro e w23 ⟨v543, rfl, ho0, hb⟩; refine ⟨_, rfl, ?_⟩; have n0_ := Aside0.mk (Kd.V_lower (Kd.V_mono (ok' := fun k_ => (w.heap.size ≤ k_)) ho0 (fun k_ hk_ => (Nat.le_trans (below_size (by repeat (first | (with_reducible first | exact HB.out | apply pA | apply pN | apply pD) | exact HB.out))) hk_))) (below_size (by repeat (first | (with_reducible first | exact HB.out | apply pA | apply pN | apply pD) | exact HB.out)))); have n1_ := Aside0.mk (below_step (by repeat (first | (with_reducible first | exact HB.out | apply pA | apply pN | apply pD) | exact HB.out)) hb); clear HB; have HO544 := n0_; have HB := n1_; clear n0_ n1_; (try clear hb); (try clear hb2); (try clear hk); (try clear hi); (try clear ho0)))
                go_ret3
                exact ⟨_, by first | rfl | (simp [errW_none, errW_some] <;> rfl) | (simp [*, errW_none, errW_some] <;> rfl), by (with_reducible repeat (first | apply Kd.V_alloc | apply Kd.V_drewN | apply Kd.V_drew)); exact HO544.out, by repeat (first | (with_reducible first | exact HB.out | apply pA | apply pN | apply pD) | exact HB.out)⟩
              · rw [if_neg c21] at H
                have c21b0 : (a1 == 3) = false := beq_eq_false_iff_ne.mpr c21
                have c21b1 : (a1 != 3) = true := bne_iff_ne.mpr c21
                by_cases c24 : a1 = 4
                · rw [if_pos c24] at H
                  have c24b0 : (a1 == 4) = true := beq_iff_eq.mpr c24
                  have c24b1 : (a1 != 4) = false := bne_eq_false_iff_eq.mpr c24
                  clear c24
                  replace H := Option.bind_eq_some_iff.mp H
                  obtain ⟨⟨t547, t550, t551⟩, A250, H⟩ := H
                  replace H : (some (t547, t550, t551)) = some (r1, r2, r3) := H
                  have A25 := Aside0.mk A250
                  clear A250
                  simp only [Option.some.injEq, Prod.mk.injEq] at H
                  obtain ⟨rfl, rfl, rfl⟩ := H
                  go_wp2_with (first | ((with_reducible refine gate_callee (f := 37) rfl ?_); refine goesL_ (some 66) rfl rfl Tryd.func37 (by kernel_rfl) rfl #[.int .i64 a0, .bool true] rfl (by (try simp only [List.map_toArray, List.map_cons, List.map_nil]); first | done | rfl | (simp only [List.length_drop, List.length_take]; rfl)) ?_; (with_reducible refine (portreeveref11_timeout.calls kj2 a0 true t547 t550 t551 _ A25.out).mono ?_); rintro e w26 ⟨v548, rfl, ho0, hb⟩; refine ⟨_, rfl, ?_⟩; have n0_ := Aside0.mk (Kd.V_lower (Kd.V_mono (ok' := fun k_ => (w.heap.size ≤ k_)) ho0 (fun k_ hk_ => (Nat.le_trans (below_size (by repeat (first | (with_reducible first | exact HB.out | apply pA | apply pN | apply pD) | exact HB.out))) hk_))) (below_size (by repeat (first | (with_reducible first | exact HB.out | apply pA | apply pN | apply pD) | exact HB.out)))); have n1_ := Aside0.mk (below_step (by repeat (first | (with_reducible first | exact HB.out | apply pA | apply pN | apply pD) | exact HB.out)) hb); clear HB; have HO549 := n0_; have HB := n1_; clear n0_ n1_; (try clear hb); (try clear hb2); (try clear hk); (try clear hi); (try clear ho0)))
                  go_ret3
                  exact ⟨_, by first | rfl | (simp [errW_none, errW_some] <;> rfl) | (simp [*, errW_none, errW_some] <;> rfl), by (with_reducible repeat (first | apply Kd.V_alloc | apply Kd.V_drewN | apply Kd.V_drew)); exact HO549.out, by repeat (first | (with_reducible first | exact HB.out | apply pA | apply pN | apply pD) | exact HB.out)⟩
                · rw [if_neg c24] at H
                  have c24b0 : (a1 == 4) = false := beq_eq_false_iff_ne.mpr c24
                  have c24b1 : (a1 != 4) = true := bne_iff_ne.mpr c24
                  by_cases c27 : a1 = 5
                  · rw [if_pos c27] at H
                    have c27b0 : (a1 == 5) = true := beq_iff_eq.mpr c27
                    have c27b1 : (a1 != 5) = false := bne_eq_false_iff_eq.mpr c27
                    clear c27
                    replace H := Option.bind_eq_some_iff.mp H
                    obtain ⟨⟨t552, t555, t556⟩, A280, H⟩ := H
                    replace H : (some (t552, t555, t556)) = some (r1, r2, r3) := H
                    have A28 := Aside0.mk A280
                    clear A280
                    simp only [Option.some.injEq, Prod.mk.injEq] at H
                    obtain ⟨rfl, rfl, rfl⟩ := H
                    go_wp2_with (first | ((with_reducible refine gate_callee (f := 37) rfl ?_); refine goesL_ (some 73) rfl rfl Tryd.func37 (by kernel_rfl) rfl #[.int .i64 a0, .bool false] rfl (by (try simp only [List.map_toArray, List.map_cons, List.map_nil]); first | done | rfl | (simp only [List.length_drop, List.length_take]; rfl)) ?_; (with_reducible refine (portreeveref11_timeout.calls kj2 a0 false t552 t555 t556 _ A28.out).mono ?_); rintro e w29 ⟨v553, rfl, ho0, hb⟩; refine ⟨_, rfl, ?_⟩; have n0_ := Aside0.mk (Kd.V_lower (Kd.V_mono (ok' := fun k_ => (w.heap.size ≤ k_)) ho0 (fun k_ hk_ => (Nat.le_trans (below_size (by repeat (first | (with_reducible first | exact HB.out | apply pA | apply pN | apply pD) | exact HB.out))) hk_))) (below_size (by repeat (first | (with_reducible first | exact HB.out | apply pA | apply pN | apply pD) | exact HB.out)))); have n1_ := Aside0.mk (below_step (by repeat (first | (with_reducible first | exact HB.out | apply pA | apply pN | apply pD) | exact HB.out)) hb); clear HB; have HO554 := n0_; have HB := n1_; clear n0_ n1_; (try clear hb); (try clear hb2); (try clear hk); (try clear hi); (try clear ho0)))
                    go_ret3
                    exact ⟨_, by first | rfl | (simp [errW_none, errW_some] <;> rfl) | (simp [*, errW_none, errW_some] <;> rfl), by (with_reducible repeat (first | apply Kd.V_alloc | apply Kd.V_drewN | apply Kd.V_drew)); exact HO554.out, by repeat (first | (with_reducible first | exact HB.out | apply pA | apply pN | apply pD) | exact HB.out)⟩
                  · rw [if_neg c27] at H
                    have c27b0 : (a1 == 5) = false := beq_eq_false_iff_ne.mpr c27
                    have c27b1 : (a1 != 5) = true := bne_iff_ne.mpr c27
                    by_cases c30 : a1 = 6
                    · rw [if_pos c30] at H
                      have c30b0 : (a1 == 6) = true := beq_iff_eq.mpr c30
                      have c30b1 : (a1 != 6) = false := bne_eq_false_iff_eq.mpr c30
                      clear c30
                      replace H := Option.bind_eq_some_iff.mp H
                      obtain ⟨⟨t557, t560, t561⟩, A310, H⟩ := H
                      replace H : (some (t557, t560, t561)) = some (r1, r2, r3) := H
                      have A31 := Aside0.mk A310
                      clear A310
                      simp only [Option.some.injEq, Prod.mk.injEq] at H
                      obtain ⟨rfl, rfl, rfl⟩ := H
                      go_wp2_with (first | ((with_reducible refine gate_callee (f := 38) rfl ?_); refine goesL_ (some 80) rfl rfl Tryd.func38 (by kernel_rfl) rfl #[.int .i64 a0, .bool true, .int .i64 8] rfl (by (try simp only [List.map_toArray, List.map_cons, List.map_nil]); first | done | rfl | (simp only [List.length_drop, List.length_take]; rfl)) ?_; (with_reducible refine (portreeveref11_request.calls kj2 a0 true 8 t557 t560 t561 _ A31.out).mono ?_); rintro e w32 ⟨v558, rfl, ho0, hb⟩; refine ⟨_, rfl, ?_⟩; have n0_ := Aside0.mk (Kd.V_lower (Kd.V_mono (ok' := fun k_ => (w.heap.size ≤ k_)) ho0 (fun k_ hk_ => (Nat.le_trans (below_size (by repeat (first | (with_reducible first | exact HB.out | apply pA | apply pN | apply pD) | exact HB.out))) hk_))) (below_size (by repeat (first | (with_reducible first | exact HB.out | apply pA | apply pN | apply pD) | exact HB.out)))); have n1_ := Aside0.mk (below_step (by repeat (first | (with_reducible first | exact HB.out | apply pA | apply pN | apply pD) | exact HB.out)) hb); clear HB; have HO559 := n0_; have HB := n1_; clear n0_ n1_; (try clear hb); (try clear hb2); (try clear hk); (try clear hi); (try clear ho0)))
                      go_ret3
                      exact ⟨_, by first | rfl | (simp [errW_none, errW_some] <;> rfl) | (simp [*, errW_none, errW_some] <;> rfl), by (with_reducible repeat (first | apply Kd.V_alloc | apply Kd.V_drewN | apply Kd.V_drew)); exact HO559.out, by repeat (first | (with_reducible first | exact HB.out | apply pA | apply pN | apply pD) | exact HB.out)⟩
                    · rw [if_neg c30] at H
                      have c30b0 : (a1 == 6) = false := beq_eq_false_iff_ne.mpr c30
                      have c30b1 : (a1 != 6) = true := bne_iff_ne.mpr c30
                      by_cases c33 : a1 = 7
                      · rw [if_pos c33] at H
                        have c33b0 : (a1 == 7) = true := beq_iff_eq.mpr c33
                        have c33b1 : (a1 != 7) = false := bne_eq_false_iff_eq.mpr c33
                        clear c33
                        replace H := Option.bind_eq_some_iff.mp H
                        obtain ⟨⟨t562, t565, t566⟩, A340, H⟩ := H
                        replace H : (some (t562, t565, t566)) = some (r1, r2, r3) := H
                        have A34 := Aside0.mk A340
                        clear A340
                        simp only [Option.some.injEq, Prod.mk.injEq] at H
                        obtain ⟨rfl, rfl, rfl⟩ := H
                        go_wp2_with (first | ((with_reducible refine gate_callee (f := 38) rfl ?_); refine goesL_ (some 87) rfl rfl Tryd.func38 (by kernel_rfl) rfl #[.int .i64 a0, .bool false, .int .i64 9] rfl (by (try simp only [List.map_toArray, List.map_cons, List.map_nil]); first | done | rfl | (simp only [List.length_drop, List.length_take]; rfl)) ?_; (with_reducible refine (portreeveref11_request.calls kj2 a0 false 9 t562 t565 t566 _ A34.out).mono ?_); rintro e w35 ⟨v563, rfl, ho0, hb⟩; refine ⟨_, rfl, ?_⟩; have n0_ := Aside0.mk (Kd.V_lower (Kd.V_mono (ok' := fun k_ => (w.heap.size ≤ k_)) ho0 (fun k_ hk_ => (Nat.le_trans (below_size (by repeat (first | (with_reducible first | exact HB.out | apply pA | apply pN | apply pD) | exact HB.out))) hk_))) (below_size (by repeat (first | (with_reducible first | exact HB.out | apply pA | apply pN | apply pD) | exact HB.out)))); have n1_ := Aside0.mk (below_step (by repeat (first | (with_reducible first | exact HB.out | apply pA | apply pN | apply pD) | exact HB.out)) hb); clear HB; have HO564 := n0_; have HB := n1_; clear n0_ n1_; (try clear hb); (try clear hb2); (try clear hk); (try clear hi); (try clear ho0)))
                        go_ret3
                        exact ⟨_, by first | rfl | (simp [errW_none, errW_some] <;> rfl) | (simp [*, errW_none, errW_some] <;> rfl), by (with_reducible repeat (first | apply Kd.V_alloc | apply Kd.V_drewN | apply Kd.V_drew)); exact HO564.out, by repeat (first | (with_reducible first | exact HB.out | apply pA | apply pN | apply pD) | exact HB.out)⟩
                      · rw [if_neg c33] at H
                        have c33b0 : (a1 == 7) = false := beq_eq_false_iff_ne.mpr c33
                        have c33b1 : (a1 != 7) = true := bne_iff_ne.mpr c33
                        by_cases c36 : a1 = 8
                        · rw [if_pos c36] at H
                          have c36b0 : (a1 == 8) = true := beq_iff_eq.mpr c36
                          have c36b1 : (a1 != 8) = false := bne_eq_false_iff_eq.mpr c36
                          clear c36
                          replace H := Option.bind_eq_some_iff.mp H
                          obtain ⟨⟨t567, t570, t571⟩, A370, H⟩ := H
                          replace H : (some (t567, t570, t571)) = some (r1, r2, r3) := H
                          have A37 := Aside0.mk A370
                          clear A370
                          simp only [Option.some.injEq, Prod.mk.injEq] at H
                          obtain ⟨rfl, rfl, rfl⟩ := H
                          go_wp2_with (first | ((with_reducible refine gate_callee (f := 39) rfl ?_); refine goesL_ (some 94) rfl rfl Tryd.func39 (by kernel_rfl) rfl #[.int .i64 a0, .bool true] rfl (by (try simp only [List.map_toArray, List.map_cons, List.map_nil]); first | done | rfl | (simp only [List.length_drop, List.length_take]; rfl)) ?_; (with_reducible refine (portreeveref11_answer.calls kj2 a0 true t567 t570 t571 _ A37.out).mono ?_); rintro e w38 ⟨v568, rfl, ho0, hb⟩; refine ⟨_, rfl, ?_⟩; have n0_ := Aside0.mk (Kd.V_lower (Kd.V_mono (ok' := fun k_ => (w.heap.size ≤ k_)) ho0 (fun k_ hk_ => (Nat.le_trans (below_size (by repeat (first | (with_reducible first | exact HB.out | apply pA | apply pN | apply pD) | exact HB.out))) hk_))) (below_size (by repeat (first | (with_reducible first | exact HB.out | apply pA | apply pN | apply pD) | exact HB.out)))); have n1_ := Aside0.mk (below_step (by repeat (first | (with_reducible first | exact HB.out | apply pA | apply pN | apply pD) | exact HB.out)) hb); clear HB; have HO569 := n0_; have HB := n1_; clear n0_ n1_; (try clear hb); (try clear hb2); (try clear hk); (try clear hi); (try clear ho0)))
                          go_ret3
                          exact ⟨_, by first | rfl | (simp [errW_none, errW_some] <;> rfl) | (simp [*, errW_none, errW_some] <;> rfl), by (with_reducible repeat (first | apply Kd.V_alloc | apply Kd.V_drewN | apply Kd.V_drew)); exact HO569.out, by repeat (first | (with_reducible first | exact HB.out | apply pA | apply pN | apply pD) | exact HB.out)⟩
                        · rw [if_neg c36] at H
                          have c36b0 : (a1 == 8) = false := beq_eq_false_iff_ne.mpr c36
                          have c36b1 : (a1 != 8) = true := bne_iff_ne.mpr c36
                          by_cases c39 : a1 = 9
                          · rw [if_pos c39] at H
                            have c39b0 : (a1 == 9) = true := beq_iff_eq.mpr c39
                            have c39b1 : (a1 != 9) = false := bne_eq_false_iff_eq.mpr c39
                            clear c39
                            replace H := Option.bind_eq_some_iff.mp H
                            obtain ⟨⟨t572, t575, t576⟩, A400, H⟩ := H
                            replace H : (some (t572, t575, t576)) = some (r1, r2, r3) := H
                            have A40 := Aside0.mk A400
                            clear A400
                            simp only [Option.some.injEq, Prod.mk.injEq] at H
                            obtain ⟨rfl, rfl, rfl⟩ := H
                            go_wp2_with (first | ((with_reducible refine gate_callee (f := 39) rfl ?_); refine goesL_ (some 101) rfl rfl Tryd.func39 (by kernel_rfl) rfl #[.int .i64 a0, .bool false] rfl (by (try simp only [List.map_toArray, List.map_cons, List.map_nil]); first | done | rfl | (simp only [List.length_drop, List.length_take]; rfl)) ?_; (with_reducible refine (portreeveref11_answer.calls kj2 a0 false t572 t575 t576 _ A40.out).mono ?_); rintro e w41 ⟨v573, rfl, ho0, hb⟩; refine ⟨_, rfl, ?_⟩; have n0_ := Aside0.mk (Kd.V_lower (Kd.V_mono (ok' := fun k_ => (w.heap.size ≤ k_)) ho0 (fun k_ hk_ => (Nat.le_trans (below_size (by repeat (first | (with_reducible first | exact HB.out | apply pA | apply pN | apply pD) | exact HB.out))) hk_))) (below_size (by repeat (first | (with_reducible first | exact HB.out | apply pA | apply pN | apply pD) | exact HB.out)))); have n1_ := Aside0.mk (below_step (by repeat (first | (with_reducible first | exact HB.out | apply pA | apply pN | apply pD) | exact HB.out)) hb); clear HB; have HO574 := n0_; have HB := n1_; clear n0_ n1_; (try clear hb); (try clear hb2); (try clear hk); (try clear hi); (try clear ho0)))
                            go_ret3
                            exact ⟨_, by first | rfl | (simp [errW_none, errW_some] <;> rfl) | (simp [*, errW_none, errW_some] <;> rfl), by (with_reducible repeat (first | apply Kd.V_alloc | apply Kd.V_drewN | apply Kd.V_drew)); exact HO574.out, by repeat (first | (with_reducible first | exact HB.out | apply pA | apply pN | apply pD) | exact HB.out)⟩
                          · rw [if_neg c39] at H
                            have c39b0 : (a1 == 9) = false := beq_eq_false_iff_ne.mpr c39
                            have c39b1 : (a1 != 9) = true := bne_iff_ne.mpr c39
                            by_cases c42 : a1 = 10
                            · rw [if_pos c42] at H
                              have c42b0 : (a1 == 10) = true := beq_iff_eq.mpr c42
                              have c42b1 : (a1 != 10) = false := bne_eq_false_iff_eq.mpr c42
                              clear c42
                              replace H := Option.bind_eq_some_iff.mp H
                              obtain ⟨⟨t577, t580, t581⟩, A430, H⟩ := H
                              replace H : (some (t577, t580, t581)) = some (r1, r2, r3) := H
                              have A43 := Aside0.mk A430
                              clear A430
                              simp only [Option.some.injEq, Prod.mk.injEq] at H
                              obtain ⟨rfl, rfl, rfl⟩ := H
                              go_wp2_with (first | ((with_reducible refine gate_callee (f := 40) rfl ?_); refine goesL_ (some 108) rfl rfl Tryd.func40 (by kernel_rfl) rfl #[.int .i64 a0] rfl (by (try simp only [List.map_toArray, List.map_cons, List.map_nil]); first | done | rfl | (simp only [List.length_drop, List.length_take]; rfl)) ?_; (with_reducible refine (portreeveref11_end.calls a0 t577 t580 t581 _ A43.out).mono ?_); rintro e w44 ⟨v578, rfl, ho0, hb⟩; refine ⟨_, rfl, ?_⟩; have n0_ := Aside0.mk (Kd.V_lower (Kd.V_mono (ok' := fun k_ => (w.heap.size ≤ k_)) ho0 (fun k_ hk_ => (Nat.le_trans (below_size (by repeat (first | (with_reducible first | exact HB.out | apply pA | apply pN | apply pD) | exact HB.out))) hk_))) (below_size (by repeat (first | (with_reducible first | exact HB.out | apply pA | apply pN | apply pD) | exact HB.out)))); have n1_ := Aside0.mk (below_step (by repeat (first | (with_reducible first | exact HB.out | apply pA | apply pN | apply pD) | exact HB.out)) hb); clear HB; have HO579 := n0_; have HB := n1_; clear n0_ n1_; (try clear hb); (try clear hb2); (try clear hk); (try clear hi); (try clear ho0)))
                              go_ret3
                              exact ⟨_, by first | rfl | (simp [errW_none, errW_some] <;> rfl) | (simp [*, errW_none, errW_some] <;> rfl), by (with_reducible repeat (first | apply Kd.V_alloc | apply Kd.V_drewN | apply Kd.V_drew)); exact HO579.out, by repeat (first | (with_reducible first | exact HB.out | apply pA | apply pN | apply pD) | exact HB.out)⟩
                            · rw [if_neg c42] at H
                              have c42b0 : (a1 == 10) = false := beq_eq_false_iff_ne.mpr c42
                              have c42b1 : (a1 != 10) = true := bne_iff_ne.mpr c42
                              by_cases c45 : a1 = 11
                              · rw [if_pos c45] at H
                                have c45b0 : (a1 == 11) = true := beq_iff_eq.mpr c45
                                have c45b1 : (a1 != 11) = false := bne_eq_false_iff_eq.mpr c45
                                clear c45
                                replace H := Option.bind_eq_some_iff.mp H
                                obtain ⟨⟨t582, t585, t586⟩, A460, H⟩ := H
                                replace H : (some (t582, t585, t586)) = some (r1, r2, r3) := H
                                have A46 := Aside0.mk A460
                                clear A460
                                simp only [Option.some.injEq, Prod.mk.injEq] at H
                                obtain ⟨rfl, rfl, rfl⟩ := H
                                go_wp2_with (first | ((with_reducible refine gate_callee (f := 41) rfl ?_); refine goesL_ (some 115) rfl rfl Tryd.func41 (by kernel_rfl) rfl #[.int .i64 a0] rfl (by (try simp only [List.map_toArray, List.map_cons, List.map_nil]); first | done | rfl | (simp only [List.length_drop, List.length_take]; rfl)) ?_; (with_reducible refine (portreeveref11_ended.calls a0 t582 t585 t586 _ A46.out).mono ?_); rintro e w47 ⟨v583, rfl, ho0, hb⟩; refine ⟨_, rfl, ?_⟩; have n0_ := Aside0.mk (Kd.V_lower (Kd.V_mono (ok' := fun k_ => (w.heap.size ≤ k_)) ho0 (fun k_ hk_ => (Nat.le_trans (below_size (by repeat (first | (with_reducible first | exact HB.out | apply pA | apply pN | apply pD) | exact HB.out))) hk_))) (below_size (by repeat (first | (with_reducible first | exact HB.out | apply pA | apply pN | apply pD) | exact HB.out)))); have n1_ := Aside0.mk (below_step (by repeat (first | (with_reducible first | exact HB.out | apply pA | apply pN | apply pD) | exact HB.out)) hb); clear HB; have HO584 := n0_; have HB := n1_; clear n0_ n1_; (try clear hb); (try clear hb2); (try clear hk); (try clear hi); (try clear ho0)))
                                go_ret3
                                exact ⟨_, by first | rfl | (simp [errW_none, errW_some] <;> rfl) | (simp [*, errW_none, errW_some] <;> rfl), by (with_reducible repeat (first | apply Kd.V_alloc | apply Kd.V_drewN | apply Kd.V_drew)); exact HO584.out, by repeat (first | (with_reducible first | exact HB.out | apply pA | apply pN | apply pD) | exact HB.out)⟩
                              · rw [if_neg c45] at H
                                have c45b0 : (a1 == 11) = false := beq_eq_false_iff_ne.mpr c45
                                have c45b1 : (a1 != 11) = true := bne_iff_ne.mpr c45
                                by_cases c48 : a1 = 12
                                · rw [if_pos c48] at H
                                  have c48b0 : (a1 == 12) = true := beq_iff_eq.mpr c48
                                  have c48b1 : (a1 != 12) = false := bne_eq_false_iff_eq.mpr c48
                                  clear c48
                                  obtain ⟨y587, hy587⟩ : ∃ y_ : List Int, y_ = (([12] : List Int)) := ⟨_, rfl⟩
                                  replace H : ((portreeveref11_to.f a0 y587).bind fun bt590 => (some (bt590.1, bt590.2.1, bt590.2.2))) = some (r1, r2, r3) := by first | (rw [hy587]; with_reducible exact H) | (have H2_ := (Option.bind_some _ _).symm.trans H; rw [hy587]; with_reducible exact H2_) | (have H2_ := (Option.bind_some _ _).symm.trans H; with_reducible exact H2_) | with_reducible exact H | (rw [hy587]; exact H) | exact H
                                  have Ny587 := Aside0.mk hy587
                                  clear hy587
                                  replace H := Option.bind_eq_some_iff.mp H
                                  obtain ⟨⟨t590, t593, t594⟩, A490, H⟩ := H
                                  replace H : (some (t590, t593, t594)) = some (r1, r2, r3) := H
                                  have A49 := Aside0.mk A490
                                  clear A490
                                  simp only [Option.some.injEq, Prod.mk.injEq] at H
                                  obtain ⟨rfl, rfl, rfl⟩ := H
                                  go_wp2_with (first | ((with_reducible refine gate_dst (N := 122) rfl ?_); refine Kd.R_lit (Kd.int .i64) _ 3 ?hg (N := 122) ?hd (xs := ([12] : List Int)) (inner := [.int .i64 12]) (ok := fun _ => True) (okp := fun _ => True) ?hr ?hp (fun _ hk => hk) trivial (Below.refl _ _) (Nat.le_refl _) (by simp) ?_; (case hd => rfl); (case hg => rfl); (case hr => first | (go_simp; done) | (go_simp; rfl)); (case hp => exact (Reps.one (show Kd.M (Kd.int .i64) _ _ _ 12 [.int .i64 12] from rfl) (Reps.none _ _))); intro v588 w50 ho51 hb hg_ hnew_; clear hg_ hnew_; (first | rw [← Ny587.out] at ho51 | (simp only [Int.reduceToNat] at ho51; rw [← Ny587.out] at ho51)); have n0_ := Aside0.mk (Kd.R_lower (Kd.R_newM (M := fun k_ => (w.heap.size ≤ k_)) ho51 (below_size (by repeat (first | (with_reducible first | exact HB.out | apply pA | apply pN | apply pD) | exact HB.out))) (fun k_ h_ => h_)) (below_size (by repeat (first | (with_reducible first | exact HB.out | apply pA | apply pN | apply pD) | exact HB.out)))); have n1_ := Aside0.mk (below_step (by repeat (first | (with_reducible first | exact HB.out | apply pA | apply pN | apply pD) | exact HB.out)) hb); clear HB; have HO589 := n0_; have HB := n1_; clear n0_ n1_; clear hb ho51; obtain ⟨Ao52, co52, eo52⟩ := Kd.R_slice HO589.out; subst eo52) | ((with_reducible refine gate_callee (f := 42) rfl ?_); refine goesL_ (some 123) rfl rfl Tryd.func42 (by kernel_rfl) rfl #[.int .i64 a0, .slice Ao52 y587.length co52] rfl (by (try simp only [List.map_toArray, List.map_cons, List.map_nil]); first | done | rfl | (simp only [List.length_drop, List.length_take]; rfl)) ?_; (with_reducible refine (portreeveref11_to.calls a0 (fun k_ => some k_ = (.slice Ao52 y587.length co52 : Value).ownBlock) _ _ y587 t590 t593 t594 _ ?side1 A49.out).mono ?_); (case side1 => exact Kd.R_V (Kd.R_tight rfl (HO589.out))); rintro e w53 ⟨v591, rfl, ho0, hb⟩; refine ⟨_, rfl, ?_⟩; have n0_ := Aside0.mk (Kd.R_below (by (with_reducible repeat (first | apply Kd.R_alloc | apply Kd.R_drewN | apply Kd.R_drew)); exact HO589.out) hb); have n1_ := Aside0.mk (Kd.V_lower (Kd.V_mono (ok' := fun k_ => (w.heap.size ≤ k_)) ho0 (fun k_ hk_ => Or.elim hk_ (fun hs_ => ((HO589.out).1 k_ hs_.symm).1) (fun hn_ => (Nat.le_trans (below_size (by repeat (first | (with_reducible first | exact HB.out | apply pA | apply pN | apply pD) | exact HB.out))) hn_)))) (below_size (by repeat (first | (with_reducible first | exact HB.out | apply pA | apply pN | apply pD) | exact HB.out)))); have n2_ := Aside0.mk (below_step (by repeat (first | (with_reducible first | exact HB.out | apply pA | apply pN | apply pD) | exact HB.out)) hb); clear HO589; clear HB; have HO589 := n0_; have HO592 := n1_; have HB := n2_; clear n0_ n1_ n2_; (try clear hb); (try clear hb2); (try clear hk); (try clear hi); (try clear ho0)))
                                  go_ret3
                                  exact ⟨_, by first | rfl | (simp [errW_none, errW_some] <;> rfl) | (simp [*, errW_none, errW_some] <;> rfl), by (with_reducible repeat (first | apply Kd.V_alloc | apply Kd.V_drewN | apply Kd.V_drew)); exact HO592.out, by repeat (first | (with_reducible first | exact HB.out | apply pA | apply pN | apply pD) | exact HB.out)⟩
                                · rw [if_neg c48] at H
                                  have c48b0 : (a1 == 12) = false := beq_eq_false_iff_ne.mpr c48
                                  have c48b1 : (a1 != 12) = true := bne_iff_ne.mpr c48
                                  by_cases c54 : a1 = 13
                                  · rw [if_pos c54] at H
                                    have c54b0 : (a1 == 13) = true := beq_iff_eq.mpr c54
                                    have c54b1 : (a1 != 13) = false := bne_eq_false_iff_eq.mpr c54
                                    clear c54
                                    replace H := Option.bind_eq_some_iff.mp H
                                    obtain ⟨⟨t595, t598, t599⟩, A550, H⟩ := H
                                    replace H : (some (t595, t598, t599)) = some (r1, r2, r3) := H
                                    have A55 := Aside0.mk A550
                                    clear A550
                                    simp only [Option.some.injEq, Prod.mk.injEq] at H
                                    obtain ⟨rfl, rfl, rfl⟩ := H
                                    go_wp2_with (first | ((with_reducible refine gate_callee (f := 43) rfl ?_); refine goesL_ (some 130) rfl rfl Tryd.func43 (by kernel_rfl) rfl #[.int .i64 a0, .bool true] rfl (by (try simp only [List.map_toArray, List.map_cons, List.map_nil]); first | done | rfl | (simp only [List.length_drop, List.length_take]; rfl)) ?_; (with_reducible refine (portreeveref11_reject.calls kj2 a0 true t595 t598 t599 _ A55.out).mono ?_); rintro e w56 ⟨v596, rfl, ho0, hb⟩; refine ⟨_, rfl, ?_⟩; have n0_ := Aside0.mk (Kd.V_lower (Kd.V_mono (ok' := fun k_ => (w.heap.size ≤ k_)) ho0 (fun k_ hk_ => (Nat.le_trans (below_size (by repeat (first | (with_reducible first | exact HB.out | apply pA | apply pN | apply pD) | exact HB.out))) hk_))) (below_size (by repeat (first | (with_reducible first | exact HB.out | apply pA | apply pN | apply pD) | exact HB.out)))); have n1_ := Aside0.mk (below_step (by repeat (first | (with_reducible first | exact HB.out | apply pA | apply pN | apply pD) | exact HB.out)) hb); clear HB; have HO597 := n0_; have HB := n1_; clear n0_ n1_; (try clear hb); (try clear hb2); (try clear hk); (try clear hi); (try clear ho0)))
                                    go_ret3
                                    exact ⟨_, by first | rfl | (simp [errW_none, errW_some] <;> rfl) | (simp [*, errW_none, errW_some] <;> rfl), by (with_reducible repeat (first | apply Kd.V_alloc | apply Kd.V_drewN | apply Kd.V_drew)); exact HO597.out, by repeat (first | (with_reducible first | exact HB.out | apply pA | apply pN | apply pD) | exact HB.out)⟩
                                  · rw [if_neg c54] at H
                                    have c54b0 : (a1 == 13) = false := beq_eq_false_iff_ne.mpr c54
                                    have c54b1 : (a1 != 13) = true := bne_iff_ne.mpr c54
                                    by_cases c57 : a1 = 14
                                    · rw [if_pos c57] at H
                                      have c57b0 : (a1 == 14) = true := beq_iff_eq.mpr c57
                                      have c57b1 : (a1 != 14) = false := bne_eq_false_iff_eq.mpr c57
                                      clear c57
                                      replace H := Option.bind_eq_some_iff.mp H
                                      obtain ⟨⟨t600, t603, t604⟩, A580, H⟩ := H
                                      replace H : (some (t600, t603, t604)) = some (r1, r2, r3) := H
                                      have A58 := Aside0.mk A580
                                      clear A580
                                      simp only [Option.some.injEq, Prod.mk.injEq] at H
                                      obtain ⟨rfl, rfl, rfl⟩ := H
                                      go_wp2_with (first | ((with_reducible refine gate_callee (f := 43) rfl ?_); refine goesL_ (some 137) rfl rfl Tryd.func43 (by kernel_rfl) rfl #[.int .i64 a0, .bool false] rfl (by (try simp only [List.map_toArray, List.map_cons, List.map_nil]); first | done | rfl | (simp only [List.length_drop, List.length_take]; rfl)) ?_; (with_reducible refine (portreeveref11_reject.calls kj2 a0 false t600 t603 t604 _ A58.out).mono ?_); rintro e w59 ⟨v601, rfl, ho0, hb⟩; refine ⟨_, rfl, ?_⟩; have n0_ := Aside0.mk (Kd.V_lower (Kd.V_mono (ok' := fun k_ => (w.heap.size ≤ k_)) ho0 (fun k_ hk_ => (Nat.le_trans (below_size (by repeat (first | (with_reducible first | exact HB.out | apply pA | apply pN | apply pD) | exact HB.out))) hk_))) (below_size (by repeat (first | (with_reducible first | exact HB.out | apply pA | apply pN | apply pD) | exact HB.out)))); have n1_ := Aside0.mk (below_step (by repeat (first | (with_reducible first | exact HB.out | apply pA | apply pN | apply pD) | exact HB.out)) hb); clear HB; have HO602 := n0_; have HB := n1_; clear n0_ n1_; (try clear hb); (try clear hb2); (try clear hk); (try clear hi); (try clear ho0)))
                                      go_ret3
                                      exact ⟨_, by first | rfl | (simp [errW_none, errW_some] <;> rfl) | (simp [*, errW_none, errW_some] <;> rfl), by (with_reducible repeat (first | apply Kd.V_alloc | apply Kd.V_drewN | apply Kd.V_drew)); exact HO602.out, by repeat (first | (with_reducible first | exact HB.out | apply pA | apply pN | apply pD) | exact HB.out)⟩
                                    · rw [if_neg c57] at H
                                      have c57b0 : (a1 == 14) = false := beq_eq_false_iff_ne.mpr c57
                                      have c57b1 : (a1 != 14) = true := bne_iff_ne.mpr c57
                                      by_cases c60 : a0 = 9
                                      · rw [if_pos c60] at H
                                        have c60b0 : (a0 == 9) = true := beq_iff_eq.mpr c60
                                        have c60b1 : (a0 != 9) = false := bne_eq_false_iff_eq.mpr c60
                                        clear c60
                                        obtain ⟨y605, hy605⟩ : ∃ y_ : List Int, y_ = (([13] : List Int)) := ⟨_, rfl⟩
                                        replace H : ((portreeveref11_to.f 9 y605).bind fun bt608 => (some (bt608.1, bt608.2.1, bt608.2.2))) = some (r1, r2, r3) := by first | (rw [hy605]; with_reducible exact H) | (have H2_ := (Option.bind_some _ _).symm.trans H; rw [hy605]; with_reducible exact H2_) | (have H2_ := (Option.bind_some _ _).symm.trans H; with_reducible exact H2_) | with_reducible exact H | (rw [hy605]; exact H) | exact H
                                        have Ny605 := Aside0.mk hy605
                                        clear hy605
                                        replace H := Option.bind_eq_some_iff.mp H
                                        obtain ⟨⟨t608, t611, t612⟩, A610, H⟩ := H
                                        replace H : (some (t608, t611, t612)) = some (r1, r2, r3) := H
                                        have A61 := Aside0.mk A610
                                        clear A610
                                        simp only [Option.some.injEq, Prod.mk.injEq] at H
                                        obtain ⟨rfl, rfl, rfl⟩ := H
                                        go_wp2_with (first | ((with_reducible refine gate_dst (N := 143) rfl ?_); refine Kd.R_lit (Kd.int .i64) _ 3 ?hg (N := 143) ?hd (xs := ([13] : List Int)) (inner := [.int .i64 13]) (ok := fun _ => True) (okp := fun _ => True) ?hr ?hp (fun _ hk => hk) trivial (Below.refl _ _) (Nat.le_refl _) (by simp) ?_; (case hd => rfl); (case hg => rfl); (case hr => first | (go_simp; done) | (go_simp; rfl)); (case hp => exact (Reps.one (show Kd.M (Kd.int .i64) _ _ _ 13 [.int .i64 13] from rfl) (Reps.none _ _))); intro v606 w62 ho63 hb hg_ hnew_; clear hg_ hnew_; (first | rw [← Ny605.out] at ho63 | (simp only [Int.reduceToNat] at ho63; rw [← Ny605.out] at ho63)); have n0_ := Aside0.mk (Kd.R_lower (Kd.R_newM (M := fun k_ => (w.heap.size ≤ k_)) ho63 (below_size (by repeat (first | (with_reducible first | exact HB.out | apply pA | apply pN | apply pD) | exact HB.out))) (fun k_ h_ => h_)) (below_size (by repeat (first | (with_reducible first | exact HB.out | apply pA | apply pN | apply pD) | exact HB.out)))); have n1_ := Aside0.mk (below_step (by repeat (first | (with_reducible first | exact HB.out | apply pA | apply pN | apply pD) | exact HB.out)) hb); clear HB; have HO607 := n0_; have HB := n1_; clear n0_ n1_; clear hb ho63; obtain ⟨Ao64, co64, eo64⟩ := Kd.R_slice HO607.out; subst eo64) | ((with_reducible refine gate_callee (f := 42) rfl ?_); refine goesL_ (some 144) rfl rfl Tryd.func42 (by kernel_rfl) rfl #[.int .i64 9, .slice Ao64 y605.length co64] rfl (by (try simp only [List.map_toArray, List.map_cons, List.map_nil]); first | done | rfl | (simp only [List.length_drop, List.length_take]; rfl)) ?_; (with_reducible refine (portreeveref11_to.calls 9 (fun k_ => some k_ = (.slice Ao64 y605.length co64 : Value).ownBlock) _ _ y605 t608 t611 t612 _ ?side1 A61.out).mono ?_); (case side1 => exact Kd.R_V (Kd.R_tight rfl (HO607.out))); rintro e w65 ⟨v609, rfl, ho0, hb⟩; refine ⟨_, rfl, ?_⟩; have n0_ := Aside0.mk (Kd.R_below (by (with_reducible repeat (first | apply Kd.R_alloc | apply Kd.R_drewN | apply Kd.R_drew)); exact HO607.out) hb); have n1_ := Aside0.mk (Kd.V_lower (Kd.V_mono (ok' := fun k_ => (w.heap.size ≤ k_)) ho0 (fun k_ hk_ => Or.elim hk_ (fun hs_ => ((HO607.out).1 k_ hs_.symm).1) (fun hn_ => (Nat.le_trans (below_size (by repeat (first | (with_reducible first | exact HB.out | apply pA | apply pN | apply pD) | exact HB.out))) hn_)))) (below_size (by repeat (first | (with_reducible first | exact HB.out | apply pA | apply pN | apply pD) | exact HB.out)))); have n2_ := Aside0.mk (below_step (by repeat (first | (with_reducible first | exact HB.out | apply pA | apply pN | apply pD) | exact HB.out)) hb); clear HO607; clear HB; have HO607 := n0_; have HO610 := n1_; have HB := n2_; clear n0_ n1_ n2_; (try clear hb); (try clear hb2); (try clear hk); (try clear hi); (try clear ho0)))
                                        go_ret3
                                        exact ⟨_, by first | rfl | (simp [errW_none, errW_some] <;> rfl) | (simp [*, errW_none, errW_some] <;> rfl), by (with_reducible repeat (first | apply Kd.V_alloc | apply Kd.V_drewN | apply Kd.V_drew)); exact HO610.out, by repeat (first | (with_reducible first | exact HB.out | apply pA | apply pN | apply pD) | exact HB.out)⟩
                                      · rw [if_neg c60] at H
                                        have c60b0 : (a0 == 9) = false := beq_eq_false_iff_ne.mpr c60
                                        have c60b1 : (a0 != 9) = true := bne_iff_ne.mpr c60
                                        replace H := Option.bind_eq_some_iff.mp H
                                        obtain ⟨⟨t613, t614, t615⟩, A660, H⟩ := H
                                        replace H : (some (t613, t614, t615)) = some (r1, r2, r3) := H
                                        have A66 := Aside0.mk A660
                                        clear A660
                                        simp only [Option.some.injEq, Prod.mk.injEq] at H
                                        obtain ⟨rfl, rfl, rfl⟩ := H
                                        go_wp2_with (first | ((with_reducible refine gate_callee (f := 44) rfl ?_); refine goesL_ (some 149) rfl rfl Tryd.func44 (by kernel_rfl) rfl #[.int .i64 a0] rfl (by (try simp only [List.map_toArray, List.map_cons, List.map_nil]); first | done | rfl | (simp only [List.length_drop, List.length_take]; rfl)) ?_; (with_reducible refine (portreeveref11_stay.calls a0 t613 t614 t615 _ A66.out).mono ?_); rintro e w67 ⟨v616, rfl, ho0, hb⟩; refine ⟨_, rfl, ?_⟩; have n0_ := Aside0.mk (Kd.R_lower (Kd.R_newM (M := fun k_ => (w.heap.size ≤ k_)) ho0 (below_size (by repeat (first | (with_reducible first | exact HB.out | apply pA | apply pN | apply pD) | exact HB.out))) (fun k_ h_ => h_)) (below_size (by repeat (first | (with_reducible first | exact HB.out | apply pA | apply pN | apply pD) | exact HB.out)))); have n1_ := Aside0.mk (below_step (by repeat (first | (with_reducible first | exact HB.out | apply pA | apply pN | apply pD) | exact HB.out)) hb); clear HB; have HO617 := n0_; have HB := n1_; clear n0_ n1_; (try clear hb); (try clear hb2); (try clear hk); (try clear hi); (try clear ho0)))
                                        go_ret3
                                        exact ⟨_, by first | rfl | (simp [errW_none, errW_some] <;> rfl) | (simp [*, errW_none, errW_some] <;> rfl), Kd.R_V (by (with_reducible repeat (first | apply Kd.R_alloc | apply Kd.R_drewN | apply Kd.R_drew)); exact Kd.R_mono HO617.out (fun _ hk => hk.1)), by repeat (first | (with_reducible first | exact HB.out | apply pA | apply pN | apply pD) | exact HB.out)⟩

end Go.Proofs.YtoenogjedmnnlaaDoor.Q

-- written by this session's own program (wip/tools/myprint.py), over the kit's print
import Derived.Test.YtdjicabmofbidaaDoorQx0
import Derived.Test.YtdjicabmofbidaaDoorQx5
import Derived.Test.YtdjicabmofbidaaDoorQx6
import Derived.Test.YtdjicabmofbidaaDoorQx7
namespace Go.Proofs.YtdjicabmofbidaaDoor.Q
open Go.RowKit Go.Proofs.YtdjicabmofbidaaDoorW.PrintWords Go.Proofs.YtdjicabmofbidaaDoorW.PrintLast Go.Proofs.YtdjicabmofbidaaDoorW.PrintMore
open Go.Proofs.YtdjicabmofbidaaDoorV Go.Proofs.YtdjicabmofbidaaDoorG
attribute [local go_sem] max2_int min2_int max_two min_two max_three min_three max_four min_four   -- for this text's walks alone
set_option linter.unusedVariables false
set_option linter.unusedSimpArgs false

/-! ### portreeveref11_Next: function 13 -/
def portreeveref11_Next.j0 : Nat → Int → Int → Bool → Option (List Int × Int × Bool)
  | 0, _, _, _ => none
  | k + 1, x0, x1, x28 => if x28 = true then ((portreeveref11_never.f x0).bind fun bt477 => (some (bt477.1, bt477.2.1, bt477.2.2))) else (if x1 = 0 then ((portreeveref11_up.f x0).bind fun bt482 => (some (bt482.1, bt482.2.1, bt482.2.2))) else (if x1 = 1 then ((portreeveref11_down.f k x0).bind fun bt487 => (some (bt487.1, bt487.2.1, bt487.2.2))) else (if x1 = 2 then ((portreeveref11_opened.f x0).bind fun bt492 => (some (bt492.1, bt492.2.1, bt492.2.2))) else (if x1 = 3 then ((portreeveref11_closed.f k x0).bind fun bt497 => (some (bt497.1, bt497.2.1, bt497.2.2))) else (if x1 = 4 then ((portreeveref11_timeout.f k x0 true).bind fun bt502 => (some (bt502.1, bt502.2.1, bt502.2.2))) else (if x1 = 5 then ((portreeveref11_timeout.f k x0 false).bind fun bt507 => (some (bt507.1, bt507.2.1, bt507.2.2))) else (if x1 = 6 then ((portreeveref11_request.f k x0 true 8).bind fun bt512 => (some (bt512.1, bt512.2.1, bt512.2.2))) else (if x1 = 7 then ((portreeveref11_request.f k x0 false 9).bind fun bt517 => (some (bt517.1, bt517.2.1, bt517.2.2))) else (if x1 = 8 then ((portreeveref11_answer.f k x0 true).bind fun bt522 => (some (bt522.1, bt522.2.1, bt522.2.2))) else (if x1 = 9 then ((portreeveref11_answer.f k x0 false).bind fun bt527 => (some (bt527.1, bt527.2.1, bt527.2.2))) else (if x1 = 10 then ((portreeveref11_end.f x0).bind fun bt532 => (some (bt532.1, bt532.2.1, bt532.2.2))) else (if x1 = 11 then ((portreeveref11_ended.f x0).bind fun bt537 => (some (bt537.1, bt537.2.1, bt537.2.2))) else (if x1 = 12 then ((portreeveref11_to.f x0 (([12] : List Int))).bind fun bt545 => (some (bt545.1, bt545.2.1, bt545.2.2))) else (if x1 = 13 then ((portreeveref11_reject.f k x0 true).bind fun bt550 => (some (bt550.1, bt550.2.1, bt550.2.2))) else (if x1 = 14 then ((portreeveref11_reject.f k x0 false).bind fun bt555 => (some (bt555.1, bt555.2.1, bt555.2.2))) else (if x0 = 9 then ((portreeveref11_to.f 9 (([13] : List Int))).bind fun bt563 => (some (bt563.1, bt563.2.1, bt563.2.2))) else ((portreeveref11_stay.f x0).bind fun bt568 => (some (bt568.1, bt568.2.1, bt568.2.2)))))))))))))))))))
def portreeveref11_Next.f (k : Nat) (a0 : Int) (a1 : Int) : Option (List Int × Int × Bool) := if a0 < 0 then (portreeveref11_Next.j0 k a0 a1 true) else (if a0 > 9 then (portreeveref11_Next.j0 k a0 a1 true) else (if a1 < 0 then (portreeveref11_Next.j0 k a0 a1 true) else (if a1 > 15 then (portreeveref11_Next.j0 k a0 a1 true) else (if a1 > 5 then (portreeveref11_Next.j0 k a0 a1 (decide (a0 < 2))) else (portreeveref11_Next.j0 k a0 a1 false)))))
theorem portreeveref11_Next.mono_l : ∀ k, (∀ y0 y1 y2, LeO (portreeveref11_Next.j0 k y0 y1 y2) (portreeveref11_Next.j0 (k + 1) y0 y1 y2))
  | 0 => fun _ _ _ r h => by simp [portreeveref11_Next.j0] at h
  | k + 1 => by
    have ih0 := portreeveref11_Next.mono_l k
    · intro y0 y1 y2
      unfold portreeveref11_Next.j0
      repeat' first
      | (with_reducible exact ih0 _ _ _)
      | (with_reducible exact portreeveref11_answer.mono _ _ _)
      | (with_reducible exact portreeveref11_closed.mono _ _)
      | (with_reducible exact portreeveref11_down.mono _ _)
      | (with_reducible exact portreeveref11_reject.mono _ _ _)
      | (with_reducible exact portreeveref11_request.mono _ _ _ _)
      | (with_reducible exact portreeveref11_timeout.mono _ _ _)
      | (with_reducible exact LeO.refl _)
      | (with_reducible exact LeO.none _)
      | (with_reducible refine LeO.ite ?_ ?_)
      | (with_reducible refine LeO.bind ?_ (fun _ => ?_))
      | exact ih0 _ _ _
      | exact portreeveref11_answer.mono _ _ _
      | exact portreeveref11_closed.mono _ _
      | exact portreeveref11_down.mono _ _
      | exact portreeveref11_reject.mono _ _ _
      | exact portreeveref11_request.mono _ _ _ _
      | exact portreeveref11_timeout.mono _ _ _
      | exact LeO.none _
      | refine LeO.ite ?_ ?_
      | refine LeO.bind ?_ (fun _ => ?_)
theorem portreeveref11_Next.mono : ∀ a0 a1 k, LeO (portreeveref11_Next.f k a0 a1) (portreeveref11_Next.f (k + 1) a0 a1) := by
  intro a0 a1 k
  have ih0 := portreeveref11_Next.mono_l k
  unfold portreeveref11_Next.f
  repeat' first
      | (with_reducible exact ih0 _ _ _)
      | (with_reducible exact portreeveref11_answer.mono _ _ _)
      | (with_reducible exact portreeveref11_closed.mono _ _)
      | (with_reducible exact portreeveref11_down.mono _ _)
      | (with_reducible exact portreeveref11_reject.mono _ _ _)
      | (with_reducible exact portreeveref11_request.mono _ _ _ _)
      | (with_reducible exact portreeveref11_timeout.mono _ _ _)
      | (with_reducible exact LeO.refl _)
      | (with_reducible exact LeO.none _)
      | (with_reducible refine LeO.ite ?_ ?_)
      | (with_reducible refine LeO.bind ?_ (fun _ => ?_))
      | exact ih0 _ _ _
      | exact portreeveref11_answer.mono _ _ _
      | exact portreeveref11_closed.mono _ _
      | exact portreeveref11_down.mono _ _
      | exact portreeveref11_reject.mono _ _ _
      | exact portreeveref11_request.mono _ _ _ _
      | exact portreeveref11_timeout.mono _ _ _
      | exact LeO.none _
      | refine LeO.ite ?_ ?_
      | refine LeO.bind ?_ (fun _ => ?_)
set_option maxHeartbeats 8000000 in
set_option maxRecDepth 100000 in
theorem portreeveref11_Next.calls (k : Nat) (a0 : Int) (a1 : Int) (r1 : List Int) (r2 : Int) (r3 : Bool) (w : World) (h : portreeveref11_Next.f k a0 a1 = some (r1, r2, r3)) :
    Calls Tryd.prog 13 #[.int .i64 a0, .int .i64 a1] w fun e w' => ∃ v0_ : Value, e = .returned (.tuple #[v0_, .int .i64 r2, .bool r3]) ∧ Kd.V (Kd.int .i64) 3 w' w.heap.size (fun k_ => (w.heap.size ≤ k_)) v0_ r1 ∧ Below w.heap.size w w' := by
  have HB := Aside0.mk (Below.refl w.heap.size w)
  have H : (if a0 < 0 then (portreeveref11_Next.j0 k a0 a1 true) else (if a0 > 9 then (portreeveref11_Next.j0 k a0 a1 true) else (if a1 < 0 then (portreeveref11_Next.j0 k a0 a1 true) else (if a1 > 15 then (portreeveref11_Next.j0 k a0 a1 true) else (if a1 > 5 then (portreeveref11_Next.j0 k a0 a1 (decide (a0 < 2))) else (portreeveref11_Next.j0 k a0 a1 false)))))) = some (r1, r2, r3) := h
  clear h
  have HC3 := Aside0.mk H
  clear H
  go_enter Tryd.func13, Tryd.ntmps13
  go_upto_region 1 with (fail)
  go_cut [28] (fun v28 wc => ∃ (kq : Nat) (x28_2 : Bool), v28 = .bool x28_2 ∧ Aside0 (portreeveref11_Next.j0 kq a0 a1 x28_2 = some (r1, r2, r3)) ∧ Aside0 (kq ≤ k) ∧ Aside0 (Below w.heap.size w wc))
  case first =>
    have H := HC3.out
    clear HC3
    by_cases c4 : a0 < 0
    · rw [if_pos c4] at H
      have c4b0 : decide (a0 < 0) = true := decide_eq_true c4
      clear c4
      (first | rw [c4b0] | (simp only [i64_w, i32_w]; rw [c4b0]) | skip)
      have H' := Aside0.mk H
      clear H
      go_wp2
      go_meet
      case rel => exact ⟨_, (true), (by first | rfl | (simp; done) | (simp [*]; done)), H', ⟨by first | omega | exact Nat.le_refl _⟩, ⟨by repeat (first | (with_reducible first | exact HB.out | apply pA | apply pN | apply pD) | exact HB.out)⟩⟩
    · rw [if_neg c4] at H
      have c4b0 : decide (a0 < 0) = false := decide_eq_false c4
      clear c4
      (first | rw [c4b0] | (simp only [i64_w, i32_w]; rw [c4b0]) | skip)
      by_cases c5 : a0 > 9
      · rw [if_pos c5] at H
        have c5b0 : decide (9 < a0) = true := decide_eq_true c5
        clear c5
        have H' := Aside0.mk H
        clear H
        go_wp2
        go_meet
        case rel => exact ⟨_, (true), (by first | rfl | (simp; done) | (simp [*]; done)), H', ⟨by first | omega | exact Nat.le_refl _⟩, ⟨by repeat (first | (with_reducible first | exact HB.out | apply pA | apply pN | apply pD) | exact HB.out)⟩⟩
      · rw [if_neg c5] at H
        have c5b0 : decide (9 < a0) = false := decide_eq_false c5
        clear c5
        by_cases c6 : a1 < 0
        · rw [if_pos c6] at H
          have c6b0 : decide (a1 < 0) = true := decide_eq_true c6
          clear c6
          have H' := Aside0.mk H
          clear H
          go_wp2
          go_meet
          case rel => exact ⟨_, (true), (by first | rfl | (simp; done) | (simp [*]; done)), H', ⟨by first | omega | exact Nat.le_refl _⟩, ⟨by repeat (first | (with_reducible first | exact HB.out | apply pA | apply pN | apply pD) | exact HB.out)⟩⟩
        · rw [if_neg c6] at H
          have c6b0 : decide (a1 < 0) = false := decide_eq_false c6
          clear c6
          by_cases c7 : a1 > 15
          · rw [if_pos c7] at H
            have c7b0 : decide (15 < a1) = true := decide_eq_true c7
            clear c7
            have H' := Aside0.mk H
            clear H
            go_wp2
            go_meet
            case rel => exact ⟨_, (true), (by first | rfl | (simp; done) | (simp [*]; done)), H', ⟨by first | omega | exact Nat.le_refl _⟩, ⟨by repeat (first | (with_reducible first | exact HB.out | apply pA | apply pN | apply pD) | exact HB.out)⟩⟩
          · rw [if_neg c7] at H
            have c7b0 : decide (15 < a1) = false := decide_eq_false c7
            clear c7
            by_cases c8 : a1 > 5
            · rw [if_pos c8] at H
              have c8b0 : decide (5 < a1) = true := decide_eq_true c8
              clear c8
              have H' := Aside0.mk H
              clear H
              go_wp2
              go_meet
              case rel => exact ⟨_, (decide (a0 < 2)), (by first | rfl | (simp; done) | (simp [*]; done)), H', ⟨by first | omega | exact Nat.le_refl _⟩, ⟨by repeat (first | (with_reducible first | exact HB.out | apply pA | apply pN | apply pD) | exact HB.out)⟩⟩
            · rw [if_neg c8] at H
              have c8b0 : decide (5 < a1) = false := decide_eq_false c8
              clear c8
              have H' := Aside0.mk H
              clear H
              go_wp2
              go_meet
              case rel => exact ⟨_, (false), (by first | rfl | (simp; done) | (simp [*]; done)), H', ⟨by first | omega | exact Nat.le_refl _⟩, ⟨by repeat (first | (with_reducible first | exact HB.out | apply pA | apply pN | apply pD) | exact HB.out)⟩⟩
  case rest =>
    clear HC3
    try clear c1
    try clear p2
    try clear c4
    try clear c4b0
    try clear c5
    try clear c5b0
    try clear c6
    try clear c6b0
    try clear c7
    try clear c7b0
    try clear c8
    try clear c8b0
    obtain ⟨kq, x28_2, rfl, HA, HJ2, HB⟩ := hcut
    cases kq with
    | zero => exact absurd HA.out (by simp [portreeveref11_Next.j0])
    | succ kj2 =>
      have H := HA.out
      clear HA
      simp only [portreeveref11_Next.j0] at H
      by_cases c9 : x28_2 = true
      · subst c9
        have H1 : ((portreeveref11_never.f a0).bind fun bt477 => (some (bt477.1, bt477.2.1, bt477.2.2))) = some (r1, r2, r3) := by rw [if_pos rfl] at H; exact H
        clear H
        have H := H1
        clear H1
        replace H := Option.bind_eq_some_iff.mp H
        obtain ⟨⟨t477, t478, t479⟩, A100, H⟩ := H
        replace H : (some (t477, t478, t479)) = some (r1, r2, r3) := H
        have A10 := Aside0.mk A100
        clear A100
        simp only [Option.some.injEq, Prod.mk.injEq] at H
        obtain ⟨rfl, rfl, rfl⟩ := H
        go_wp2_with (first | ((with_reducible refine gate_callee (f := 23) rfl ?_); refine goesL_ (some 30) rfl rfl Tryd.func23 (by kernel_rfl) rfl #[.int .i64 a0] rfl (by (try simp only [List.map_toArray, List.map_cons, List.map_nil]); first | done | rfl | (simp only [List.length_drop, List.length_take]; rfl)) ?_; (with_reducible refine (portreeveref11_never.calls a0 t477 t478 t479 _ A10.out).mono ?_); rintro e w11 ⟨v480, rfl, ho0, hb⟩; refine ⟨_, rfl, ?_⟩; have n0_ := Aside0.mk (Kd.R_lower (Kd.R_newM (M := fun k_ => (w.heap.size ≤ k_)) ho0 (below_size (by repeat (first | (with_reducible first | exact HB.out | apply pA | apply pN | apply pD) | exact HB.out))) (fun k_ h_ => h_)) (below_size (by repeat (first | (with_reducible first | exact HB.out | apply pA | apply pN | apply pD) | exact HB.out)))); have n1_ := Aside0.mk (below_step (by repeat (first | (with_reducible first | exact HB.out | apply pA | apply pN | apply pD) | exact HB.out)) hb); clear HB; have HO481 := n0_; have HB := n1_; clear n0_ n1_; (try clear hb); (try clear hb2); (try clear hk); (try clear hi); (try clear ho0)))
        go_ret3
        exact ⟨_, by first | rfl | (simp [errW_none, errW_some] <;> rfl) | (simp [*, errW_none, errW_some] <;> rfl), Kd.R_V (by (with_reducible repeat (first | apply Kd.R_alloc | apply Kd.R_drewN | apply Kd.R_drew)); exact Kd.R_mono HO481.out (fun _ hk => hk.1)), by repeat (first | (with_reducible first | exact HB.out | apply pA | apply pN | apply pD) | exact HB.out)⟩
      · replace c9 := Bool.eq_false_iff.mpr c9
        subst c9
        have H1 : (if a1 = 0 then ((portreeveref11_up.f a0).bind fun bt482 => (some (bt482.1, bt482.2.1, bt482.2.2))) else (if a1 = 1 then ((portreeveref11_down.f kj2 a0).bind fun bt487 => (some (bt487.1, bt487.2.1, bt487.2.2))) else (if a1 = 2 then ((portreeveref11_opened.f a0).bind fun bt492 => (some (bt492.1, bt492.2.1, bt492.2.2))) else (if a1 = 3 then ((portreeveref11_closed.f kj2 a0).bind fun bt497 => (some (bt497.1, bt497.2.1, bt497.2.2))) else (if a1 = 4 then ((portreeveref11_timeout.f kj2 a0 true).bind fun bt502 => (some (bt502.1, bt502.2.1, bt502.2.2))) else (if a1 = 5 then ((portreeveref11_timeout.f kj2 a0 false).bind fun bt507 => (some (bt507.1, bt507.2.1, bt507.2.2))) else (if a1 = 6 then ((portreeveref11_request.f kj2 a0 true 8).bind fun bt512 => (some (bt512.1, bt512.2.1, bt512.2.2))) else (if a1 = 7 then ((portreeveref11_request.f kj2 a0 false 9).bind fun bt517 => (some (bt517.1, bt517.2.1, bt517.2.2))) else (if a1 = 8 then ((portreeveref11_answer.f kj2 a0 true).bind fun bt522 => (some (bt522.1, bt522.2.1, bt522.2.2))) else (if a1 = 9 then ((portreeveref11_answer.f kj2 a0 false).bind fun bt527 => (some (bt527.1, bt527.2.1, bt527.2.2))) else (if a1 = 10 then ((portreeveref11_end.f a0).bind fun bt532 => (some (bt532.1, bt532.2.1, bt532.2.2))) else (if a1 = 11 then ((portreeveref11_ended.f a0).bind fun bt537 => (some (bt537.1, bt537.2.1, bt537.2.2))) else (if a1 = 12 then ((portreeveref11_to.f a0 (([12] : List Int))).bind fun bt545 => (some (bt545.1, bt545.2.1, bt545.2.2))) else (if a1 = 13 then ((portreeveref11_reject.f kj2 a0 true).bind fun bt550 => (some (bt550.1, bt550.2.1, bt550.2.2))) else (if a1 = 14 then ((portreeveref11_reject.f kj2 a0 false).bind fun bt555 => (some (bt555.1, bt555.2.1, bt555.2.2))) else (if a0 = 9 then ((portreeveref11_to.f 9 (([13] : List Int))).bind fun bt563 => (some (bt563.1, bt563.2.1, bt563.2.2))) else ((portreeveref11_stay.f a0).bind fun bt568 => (some (bt568.1, bt568.2.1, bt568.2.2))))))))))))))))))) = some (r1, r2, r3) := by rw [if_neg (show ¬ (false = true) by decide)] at H; exact H
        clear H
        have H := H1
        clear H1
        by_cases c12 : a1 = 0
        · rw [if_pos c12] at H
          have c12b0 : (a1 == 0) = true := beq_iff_eq.mpr c12
          have c12b1 : (a1 != 0) = false := bne_eq_false_iff_eq.mpr c12
          clear c12
          replace H := Option.bind_eq_some_iff.mp H
          obtain ⟨⟨t482, t485, t486⟩, A130, H⟩ := H
          replace H : (some (t482, t485, t486)) = some (r1, r2, r3) := H
          have A13 := Aside0.mk A130
          clear A130
          simp only [Option.some.injEq, Prod.mk.injEq] at H
          obtain ⟨rfl, rfl, rfl⟩ := H
          go_wp2_with (first | ((with_reducible refine gate_callee (f := 24) rfl ?_); refine goesL_ (some 38) rfl rfl Tryd.func24 (by kernel_rfl) rfl #[.int .i64 a0] rfl (by (try simp only [List.map_toArray, List.map_cons, List.map_nil]); first | done | rfl | (simp only [List.length_drop, List.length_take]; rfl)) ?_; (with_reducible refine (portreeveref11_up.calls a0 t482 t485 t486 _ A13.out).mono ?_); rintro e w14 ⟨v483, rfl, ho0, hb⟩; refine ⟨_, rfl, ?_⟩; have n0_ := Aside0.mk (Kd.V_lower (Kd.V_mono (ok' := fun k_ => (w.heap.size ≤ k_)) ho0 (fun k_ hk_ => (Nat.le_trans (below_size (by repeat (first | (with_reducible first | exact HB.out | apply pA | apply pN | apply pD) | exact HB.out))) hk_))) (below_size (by repeat (first | (with_reducible first | exact HB.out | apply pA | apply pN | apply pD) | exact HB.out)))); have n1_ := Aside0.mk (below_step (by repeat (first | (with_reducible first | exact HB.out | apply pA | apply pN | apply pD) | exact HB.out)) hb); clear HB; have HO484 := n0_; have HB := n1_; clear n0_ n1_; (try clear hb); (try clear hb2); (try clear hk); (try clear hi); (try clear ho0)))
          go_ret3
          exact ⟨_, by first | rfl | (simp [errW_none, errW_some] <;> rfl) | (simp [*, errW_none, errW_some] <;> rfl), by (with_reducible repeat (first | apply Kd.V_alloc | apply Kd.V_drewN | apply Kd.V_drew)); exact HO484.out, by repeat (first | (with_reducible first | exact HB.out | apply pA | apply pN | apply pD) | exact HB.out)⟩
        · rw [if_neg c12] at H
          have c12b0 : (a1 == 0) = false := beq_eq_false_iff_ne.mpr c12
          have c12b1 : (a1 != 0) = true := bne_iff_ne.mpr c12
          by_cases c15 : a1 = 1
          · rw [if_pos c15] at H
            have c15b0 : (a1 == 1) = true := beq_iff_eq.mpr c15
            have c15b1 : (a1 != 1) = false := bne_eq_false_iff_eq.mpr c15
            clear c15
            replace H := Option.bind_eq_some_iff.mp H
            obtain ⟨⟨t487, t490, t491⟩, A160, H⟩ := H
            replace H : (some (t487, t490, t491)) = some (r1, r2, r3) := H
            have A16 := Aside0.mk A160
            clear A160
            simp only [Option.some.injEq, Prod.mk.injEq] at H
            obtain ⟨rfl, rfl, rfl⟩ := H
            go_wp2_with (first | ((with_reducible refine gate_callee (f := 25) rfl ?_); refine goesL_ (some 45) rfl rfl Tryd.func25 (by kernel_rfl) rfl #[.int .i64 a0] rfl (by (try simp only [List.map_toArray, List.map_cons, List.map_nil]); first | done | rfl | (simp only [List.length_drop, List.length_take]; rfl)) ?_; (with_reducible refine (portreeveref11_down.calls kj2 a0 t487 t490 t491 _ A16.out).mono ?_); rintro e w17 ⟨v488, rfl, ho0, hb⟩; refine ⟨_, rfl, ?_⟩; have n0_ := Aside0.mk (Kd.V_lower (Kd.V_mono (ok' := fun k_ => (w.heap.size ≤ k_)) ho0 (fun k_ hk_ => (Nat.le_trans (below_size (by repeat (first | (with_reducible first | exact HB.out | apply pA | apply pN | apply pD) | exact HB.out))) hk_))) (below_size (by repeat (first | (with_reducible first | exact HB.out | apply pA | apply pN | apply pD) | exact HB.out)))); have n1_ := Aside0.mk (below_step (by repeat (first | (with_reducible first | exact HB.out | apply pA | apply pN | apply pD) | exact HB.out)) hb); clear HB; have HO489 := n0_; have HB := n1_; clear n0_ n1_; (try clear hb); (try clear hb2); (try clear hk); (try clear hi); (try clear ho0)))
            go_ret3
            exact ⟨_, by first | rfl | (simp [errW_none, errW_some] <;> rfl) | (simp [*, errW_none, errW_some] <;> rfl), by (with_reducible repeat (first | apply Kd.V_alloc | apply Kd.V_drewN | apply Kd.V_drew)); exact HO489.out, by repeat (first | (with_reducible first | exact HB.out | apply pA | apply pN | apply pD) | exact HB.out)⟩
          · rw [if_neg c15] at H
            have c15b0 : (a1 == 1) = false := beq_eq_false_iff_ne.mpr c15
            have c15b1 : (a1 != 1) = true := bne_iff_ne.mpr c15
            by_cases c18 : a1 = 2
            · rw [if_pos c18] at H
              have c18b0 : (a1 == 2) = true := beq_iff_eq.mpr c18
              have c18b1 : (a1 != 2) = false := bne_eq_false_iff_eq.mpr c18
              clear c18
              replace H := Option.bind_eq_some_iff.mp H
              obtain ⟨⟨t492, t495, t496⟩, A190, H⟩ := H
              replace H : (some (t492, t495, t496)) = some (r1, r2, r3) := H
              have A19 := Aside0.mk A190
              clear A190
              simp only [Option.some.injEq, Prod.mk.injEq] at H
              obtain ⟨rfl, rfl, rfl⟩ := H
              go_wp2_with (first | ((with_reducible refine gate_callee (f := 26) rfl ?_); refine goesL_ (some 52) rfl rfl Tryd.func26 (by kernel_rfl) rfl #[.int .i64 a0] rfl (by (try simp only [List.map_toArray, List.map_cons, List.map_nil]); first | done | rfl | (simp only [List.length_drop, List.length_take]; rfl)) ?_; (with_reducible refine (portreeveref11_opened.calls a0 t492 t495 t496 _ A19.out).mono ?_); rintro e w20 ⟨v493, rfl, ho0, hb⟩; refine ⟨_, rfl, ?_⟩; have n0_ := Aside0.mk (Kd.V_lower (Kd.V_mono (ok' := fun k_ => (w.heap.size ≤ k_)) ho0 (fun k_ hk_ => (Nat.le_trans (below_size (by repeat (first | (with_reducible first | exact HB.out | apply pA | apply pN | apply pD) | exact HB.out))) hk_))) (below_size (by repeat (first | (with_reducible first | exact HB.out | apply pA | apply pN | apply pD) | exact HB.out)))); have n1_ := Aside0.mk (below_step (by repeat (first | (with_reducible first | exact HB.out | apply pA | apply pN | apply pD) | exact HB.out)) hb); clear HB; have HO494 := n0_; have HB := n1_; clear n0_ n1_; (try clear hb); (try clear hb2); (try clear hk); (try clear hi); (try clear ho0)))
              go_ret3
              exact ⟨_, by first | rfl | (simp [errW_none, errW_some] <;> rfl) | (simp [*, errW_none, errW_some] <;> rfl), by (with_reducible repeat (first | apply Kd.V_alloc | apply Kd.V_drewN | apply Kd.V_drew)); exact HO494.out, by repeat (first | (with_reducible first | exact HB.out | apply pA | apply pN | apply pD) | exact HB.out)⟩
            · rw [if_neg c18] at H
              have c18b0 : (a1 == 2) = false := beq_eq_false_iff_ne.mpr c18
              have c18b1 : (a1 != 2) = true := bne_iff_ne.mpr c18
              by_cases c21 : a1 = 3
              · rw [if_pos c21] at H
                have c21b0 : (a1 == 3) = true := beq_iff_eq.mpr c21
                have c21b1 : (a1 != 3) = false := bne_eq_false_iff_eq.mpr c21
                clear c21
                replace H := Option.bind_eq_some_iff.mp H
                obtain ⟨⟨t497, t500, t501⟩, A220, H⟩ := H
                replace H : (some (t497, t500, t501)) = some (r1, r2, r3) := H
                have A22 := Aside0.mk A220
                clear A220
                simp only [Option.some.injEq, Prod.mk.injEq] at H
                obtain ⟨rfl, rfl, rfl⟩ := H
                go_wp2_with (first | ((with_reducible refine gate_callee (f := 27) rfl ?_); refine goesL_ (some 59) rfl rfl Tryd.func27 (by kernel_rfl) rfl #[.int .i64 a0] rfl (by (try simp only [List.map_toArray, List.map_cons, List.map_nil]); first | done | rfl | (simp only [List.length_drop, List.length_take]; rfl)) ?_; (with_reducible refine (portreeveref11_closed.calls kj2 a0 t497 t500 t501 _ A22.out).mono ?_); rintro e w23 ⟨v498, rfl, ho0, hb⟩; refine ⟨_, rfl, ?_⟩; have n0_ := Aside0.mk (Kd.V_lower (Kd.V_mono (ok' := fun k_ => (w.heap.size ≤ k_)) ho0 (fun k_ hk_ => (Nat.le_trans (below_size (by repeat (first | (with_reducible first | exact HB.out | apply pA | apply pN | apply pD) | exact HB.out))) hk_))) (below_size (by repeat (first | (with_reducible first | exact HB.out | apply pA | apply pN | apply pD) | exact HB.out)))); have n1_ := Aside0.mk (below_step (by repeat (first | (with_reducible first | exact HB.out | apply pA | apply pN | apply pD) | exact HB.out)) hb); clear HB; have HO499 := n0_; have HB := n1_; clear n0_ n1_; (try clear hb); (try clear hb2); (try clear hk); (try clear hi); (try clear ho0)))
                go_ret3
                exact ⟨_, by first | rfl | (simp [errW_none, errW_some] <;> rfl) | (simp [*, errW_none, errW_some] <;> rfl), by (with_reducible repeat (first | apply Kd.V_alloc | apply Kd.V_drewN | apply Kd.V_drew)); exact HO499.out, by repeat (first | (with_reducible first | exact HB.out | apply pA | apply pN | apply pD) | exact HB.out)⟩
              · rw [if_neg c21] at H
                have c21b0 : (a1 == 3) = false := beq_eq_false_iff_ne.mpr c21
                have c21b1 : (a1 != 3) = true := bne_iff_ne.mpr c21
                by_cases c24 : a1 = 4
                · rw [if_pos c24] at H
                  have c24b0 : (a1 == 4) = true := beq_iff_eq.mpr c24
                  have c24b1 : (a1 != 4) = false := bne_eq_false_iff_eq.mpr c24
                  clear c24
                  replace H := Option.bind_eq_some_iff.mp H
                  obtain ⟨⟨t502, t505, t506⟩, A250, H⟩ := H
                  replace H : (some (t502, t505, t506)) = some (r1, r2, r3) := H
                  have A25 := Aside0.mk A250
                  clear A250
                  simp only [Option.some.injEq, Prod.mk.injEq] at H
                  obtain ⟨rfl, rfl, rfl⟩ := H
                  go_wp2_with (first | ((with_reducible refine gate_callee (f := 28) rfl ?_); refine goesL_ (some 66) rfl rfl Tryd.func28 (by kernel_rfl) rfl #[.int .i64 a0, .bool true] rfl (by (try simp only [List.map_toArray, List.map_cons, List.map_nil]); first | done | rfl | (simp only [List.length_drop, List.length_take]; rfl)) ?_; (with_reducible refine (portreeveref11_timeout.calls kj2 a0 true t502 t505 t506 _ A25.out).mono ?_); rintro e w26 ⟨v503, rfl, ho0, hb⟩; refine ⟨_, rfl, ?_⟩; have n0_ := Aside0.mk (Kd.V_lower (Kd.V_mono (ok' := fun k_ => (w.heap.size ≤ k_)) ho0 (fun k_ hk_ => (Nat.le_trans (below_size (by repeat (first | (with_reducible first | exact HB.out | apply pA | apply pN | apply pD) | exact HB.out))) hk_))) (below_size (by repeat (first | (with_reducible first | exact HB.out | apply pA | apply pN | apply pD) | exact HB.out)))); have n1_ := Aside0.mk (below_step (by repeat (first | (with_reducible first | exact HB.out | apply pA | apply pN | apply pD) | exact HB.out)) hb); clear HB; have HO504 := n0_; have HB := n1_; clear n0_ n1_; (try clear hb); (try clear hb2); (try clear hk); (try clear hi); (try clear ho0)))
                  go_ret3
                  exact ⟨_, by first | rfl | (simp [errW_none, errW_some] <;> rfl) | (simp [*, errW_none, errW_some] <;> rfl), by (with_reducible repeat (first | apply Kd.V_alloc | apply Kd.V_drewN | apply Kd.V_drew)); exact HO504.out, by repeat (first | (with_reducible first | exact HB.out | apply pA | apply pN | apply pD) | exact HB.out)⟩
                · rw [if_neg c24] at H
                  have c24b0 : (a1 == 4) = false := beq_eq_false_iff_ne.mpr c24
                  have c24b1 : (a1 != 4) = true := bne_iff_ne.mpr c24
                  by_cases c27 : a1 = 5
                  · rw [if_pos c27] at H
                    have c27b0 : (a1 == 5) = true := beq_iff_eq.mpr c27
                    have c27b1 : (a1 != 5) = false := bne_eq_false_iff_eq.mpr c27
                    clear c27
                    replace H := Option.bind_eq_some_iff.mp H
                    obtain ⟨⟨t507, t510, t511⟩, A280, H⟩ := H
                    replace H : (some (t507, t510, t511)) = some (r1, r2, r3) := H
                    have A28 := Aside0.mk A280
                    clear A280
                    simp only [Option.some.injEq, Prod.mk.injEq] at H
                    obtain ⟨rfl, rfl, rfl⟩ := H
                    go_wp2_with (first | ((with_reducible refine gate_callee (f := 28) rfl ?_); refine goesL_ (some 73) rfl rfl Tryd.func28 (by kernel_rfl) rfl #[.int .i64 a0, .bool false] rfl (by (try simp only [List.map_toArray, List.map_cons, List.map_nil]); first | done | rfl | (simp only [List.length_drop, List.length_take]; rfl)) ?_; (with_reducible refine (portreeveref11_timeout.calls kj2 a0 false t507 t510 t511 _ A28.out).mono ?_); rintro e w29 ⟨v508, rfl, ho0, hb⟩; refine ⟨_, rfl, ?_⟩; have n0_ := Aside0.mk (Kd.V_lower (Kd.V_mono (ok' := fun k_ => (w.heap.size ≤ k_)) ho0 (fun k_ hk_ => (Nat.le_trans (below_size (by repeat (first | (with_reducible first | exact HB.out | apply pA | apply pN | apply pD) | exact HB.out))) hk_))) (below_size (by repeat (first | (with_reducible first | exact HB.out | apply pA | apply pN | apply pD) | exact HB.out)))); have n1_ := Aside0.mk (below_step (by repeat (first | (with_reducible first | exact HB.out | apply pA | apply pN | apply pD) | exact HB.out)) hb); clear HB; have HO509 := n0_; have HB := n1_; clear n0_ n1_; (try clear hb); (try clear hb2); (try clear hk); (try clear hi); (try clear ho0)))
                    go_ret3
                    exact ⟨_, by first | rfl | (simp [errW_none, errW_some] <;> rfl) | (simp [*, errW_none, errW_some] <;> rfl), by (with_reducible repeat (first | apply Kd.V_alloc | apply Kd.V_drewN | apply Kd.V_drew)); exact HO509.out, by repeat (first | (with_reducible first | exact HB.out | apply pA | apply pN | apply pD) | exact HB.out)⟩
                  · rw [if_neg c27] at H
                    have c27b0 : (a1 == 5) = false := beq_eq_false_iff_ne.mpr c27
                    have c27b1 : (a1 != 5) = true := bne_iff_ne.mpr c27
                    by_cases c30 : a1 = 6
                    · rw [if_pos c30] at H
                      have c30b0 : (a1 == 6) = true := beq_iff_eq.mpr c30
                      have c30b1 : (a1 != 6) = false := bne_eq_false_iff_eq.mpr c30
                      clear c30
                      replace H := Option.bind_eq_some_iff.mp H
                      obtain ⟨⟨t512, t515, t516⟩, A310, H⟩ := H
                      replace H : (some (t512, t515, t516)) = some (r1, r2, r3) := H
                      have A31 := Aside0.mk A310
                      clear A310
                      simp only [Option.some.injEq, Prod.mk.injEq] at H
                      obtain ⟨rfl, rfl, rfl⟩ := H
                      go_wp2_with (first | ((with_reducible refine gate_callee (f := 29) rfl ?_); refine goesL_ (some 80) rfl rfl Tryd.func29 (by kernel_rfl) rfl #[.int .i64 a0, .bool true, .int .i64 8] rfl (by (try simp only [List.map_toArray, List.map_cons, List.map_nil]); first | done | rfl | (simp only [List.length_drop, List.length_take]; rfl)) ?_; (with_reducible refine (portreeveref11_request.calls kj2 a0 true 8 t512 t515 t516 _ A31.out).mono ?_); rintro e w32 ⟨v513, rfl, ho0, hb⟩; refine ⟨_, rfl, ?_⟩; have n0_ := Aside0.mk (Kd.V_lower (Kd.V_mono (ok' := fun k_ => (w.heap.size ≤ k_)) ho0 (fun k_ hk_ => (Nat.le_trans (below_size (by repeat (first | (with_reducible first | exact HB.out | apply pA | apply pN | apply pD) | exact HB.out))) hk_))) (below_size (by repeat (first | (with_reducible first | exact HB.out | apply pA | apply pN | apply pD) | exact HB.out)))); have n1_ := Aside0.mk (below_step (by repeat (first | (with_reducible first | exact HB.out | apply pA | apply pN | apply pD) | exact HB.out)) hb); clear HB; have HO514 := n0_; have HB := n1_; clear n0_ n1_; (try clear hb); (try clear hb2); (try clear hk); (try clear hi); (try clear ho0)))
                      go_ret3
                      exact ⟨_, by first | rfl | (simp [errW_none, errW_some] <;> rfl) | (simp [*, errW_none, errW_some] <;> rfl), by (with_reducible repeat (first | apply Kd.V_alloc | apply Kd.V_drewN | apply Kd.V_drew)); exact HO514.out, by repeat (first | (with_reducible first | exact HB.out | apply pA | apply pN | apply pD) | exact HB.out)⟩
                    · rw [if_neg c30] at H
                      have c30b0 : (a1 == 6) = false := beq_eq_false_iff_ne.mpr c30
                      have c30b1 : (a1 != 6) = true := bne_iff_ne.mpr c30
                      by_cases c33 : a1 = 7
                      · rw [if_pos c33] at H
                        have c33b0 : (a1 == 7) = true := beq_iff_eq.mpr c33
                        have c33b1 : (a1 != 7) = false := bne_eq_false_iff_eq.mpr c33
                        clear c33
                        replace H := Option.bind_eq_some_iff.mp H
                        obtain ⟨⟨t517, t520, t521⟩, A340, H⟩ := H
                        replace H : (some (t517, t520, t521)) = some (r1, r2, r3) := H
                        have A34 := Aside0.mk A340
                        clear A340
                        simp only [Option.some.injEq, Prod.mk.injEq] at H
                        obtain ⟨rfl, rfl, rfl⟩ := H
                        go_wp2_with (first | ((with_reducible refine gate_callee (f := 29) rfl ?_); refine goesL_ (some 87) rfl rfl Tryd.func29 (by kernel_rfl) rfl #[.int .i64 a0, .bool false, .int .i64 9] rfl (by (try simp only [List.map_toArray, List.map_cons, List.map_nil]); first | done | rfl | (simp only [List.length_drop, List.length_take]; rfl)) ?_; (with_reducible refine (portreeveref11_request.calls kj2 a0 false 9 t517 t520 t521 _ A34.out).mono ?_); rintro e w35 ⟨v518, rfl, ho0, hb⟩; refine ⟨_, rfl, ?_⟩; have n0_ := Aside0.mk (Kd.V_lower (Kd.V_mono (ok' := fun k_ => (w.heap.size ≤ k_)) ho0 (fun k_ hk_ => (Nat.le_trans (below_size (by repeat (first | (with_reducible first | exact HB.out | apply pA | apply pN | apply pD) | exact HB.out))) hk_))) (below_size (by repeat (first | (with_reducible first | exact HB.out | apply pA | apply pN | apply pD) | exact HB.out)))); have n1_ := Aside0.mk (below_step (by repeat (first | (with_reducible first | exact HB.out | apply pA | apply pN | apply pD) | exact HB.out)) hb); clear HB; have HO519 := n0_; have HB := n1_; clear n0_ n1_; (try clear hb); (try clear hb2); (try clear hk); (try clear hi); (try clear ho0)))
                        go_ret3
                        exact ⟨_, by first | rfl | (simp [errW_none, errW_some] <;> rfl) | (simp [*, errW_none, errW_some] <;> rfl), by (with_reducible repeat (first | apply Kd.V_alloc | apply Kd.V_drewN | apply Kd.V_drew)); exact HO519.out, by repeat (first | (with_reducible first | exact HB.out | apply pA | apply pN | apply pD) | exact HB.out)⟩
                      · rw [if_neg c33] at H
                        have c33b0 : (a1 == 7) = false := beq_eq_false_iff_ne.mpr c33
                        have c33b1 : (a1 != 7) = true := bne_iff_ne.mpr c33
                        by_cases c36 : a1 = 8
                        · rw [if_pos c36] at H
                          have c36b0 : (a1 == 8) = true := beq_iff_eq.mpr c36
                          have c36b1 : (a1 != 8) = false := bne_eq_false_iff_eq.mpr c36
                          clear c36
                          replace H := Option.bind_eq_some_iff.mp H
                          obtain ⟨⟨t522, t525, t526⟩, A370, H⟩ := H
                          replace H : (some (t522, t525, t526)) = some (r1, r2, r3) := H
                          have A37 := Aside0.mk A370
                          clear A370
                          simp only [Option.some.injEq, Prod.mk.injEq] at H
                          obtain ⟨rfl, rfl, rfl⟩ := H
                          go_wp2_with (first | ((with_reducible refine gate_callee (f := 30) rfl ?_); refine goesL_ (some 94) rfl rfl Tryd.func30 (by kernel_rfl) rfl #[.int .i64 a0, .bool true] rfl (by (try simp only [List.map_toArray, List.map_cons, List.map_nil]); first | done | rfl | (simp only [List.length_drop, List.length_take]; rfl)) ?_; (with_reducible refine (portreeveref11_answer.calls kj2 a0 true t522 t525 t526 _ A37.out).mono ?_); rintro e w38 ⟨v523, rfl, ho0, hb⟩; refine ⟨_, rfl, ?_⟩; have n0_ := Aside0.mk (Kd.V_lower (Kd.V_mono (ok' := fun k_ => (w.heap.size ≤ k_)) ho0 (fun k_ hk_ => (Nat.le_trans (below_size (by repeat (first | (with_reducible first | exact HB.out | apply pA | apply pN | apply pD) | exact HB.out))) hk_))) (below_size (by repeat (first | (with_reducible first | exact HB.out | apply pA | apply pN | apply pD) | exact HB.out)))); have n1_ := Aside0.mk (below_step (by repeat (first | (with_reducible first | exact HB.out | apply pA | apply pN | apply pD) | exact HB.out)) hb); clear HB; have HO524 := n0_; have HB := n1_; clear n0_ n1_; (try clear hb); (try clear hb2); (try clear hk); (try clear hi); (try clear ho0)))
                          go_ret3
                          exact ⟨_, by first | rfl | (simp [errW_none, errW_some] <;> rfl) | (simp [*, errW_none, errW_some] <;> rfl), by (with_reducible repeat (first | apply Kd.V_alloc | apply Kd.V_drewN | apply Kd.V_drew)); exact HO524.out, by repeat (first | (with_reducible first | exact HB.out | apply pA | apply pN | apply pD) | exact HB.out)⟩
                        · rw [if_neg c36] at H
                          have c36b0 : (a1 == 8) = false := beq_eq_false_iff_ne.mpr c36
                          have c36b1 : (a1 != 8) = true := bne_iff_ne.mpr c36
                          by_cases c39 : a1 = 9
                          · rw [if_pos c39] at H
                            have c39b0 : (a1 == 9) = true := beq_iff_eq.mpr c39
                            have c39b1 : (a1 != 9) = false := bne_eq_false_iff_eq.mpr c39
                            clear c39
                            replace H := Option.bind_eq_some_iff.mp H
                            obtain ⟨⟨t527, t530, t531⟩, A400, H⟩ := H
                            replace H : (some (t527, t530, t531)) = some (r1, r2, r3) := H
                            have A40 := Aside0.mk A400
                            clear A400
                            simp only [Option.some.injEq, Prod.mk.injEq] at H
                            obtain ⟨rfl, rfl, rfl⟩ := H
                            go_wp2_with (first | ((with_reducible refine gate_callee (f := 30) rfl ?_); refine goesL_ (some 101) rfl rfl Tryd.func30 (by kernel_rfl) rfl #[.int .i64 a0, .bool false] rfl (by (try simp only [List.map_toArray, List.map_cons, List.map_nil]); first | done | rfl | (simp only [List.length_drop, List.length_take]; rfl)) ?_; (with_reducible refine (portreeveref11_answer.calls kj2 a0 false t527 t530 t531 _ A40.out).mono ?_); rintro e w41 ⟨v528, rfl, ho0, hb⟩; refine ⟨_, rfl, ?_⟩; have n0_ := Aside0.mk (Kd.V_lower (Kd.V_mono (ok' := fun k_ => (w.heap.size ≤ k_)) ho0 (fun k_ hk_ => (Nat.le_trans (below_size (by repeat (first | (with_reducible first | exact HB.out | apply pA | apply pN | apply pD) | exact HB.out))) hk_))) (below_size (by repeat (first | (with_reducible first | exact HB.out | apply pA | apply pN | apply pD) | exact HB.out)))); have n1_ := Aside0.mk (below_step (by repeat (first | (with_reducible first | exact HB.out | apply pA | apply pN | apply pD) | exact HB.out)) hb); clear HB; have HO529 := n0_; have HB := n1_; clear n0_ n1_; (try clear hb); (try clear hb2); (try clear hk); (try clear hi); (try clear ho0)))
                            go_ret3
                            exact ⟨_, by first | rfl | (simp [errW_none, errW_some] <;> rfl) | (simp [*, errW_none, errW_some] <;> rfl), by (with_reducible repeat (first | apply Kd.V_alloc | apply Kd.V_drewN | apply Kd.V_drew)); exact HO529.out, by repeat (first | (with_reducible first | exact HB.out | apply pA | apply pN | apply pD) | exact HB.out)⟩
                          · rw [if_neg c39] at H
                            have c39b0 : (a1 == 9) = false := beq_eq_false_iff_ne.mpr c39
                            have c39b1 : (a1 != 9) = true := bne_iff_ne.mpr c39
                            by_cases c42 : a1 = 10
                            · rw [if_pos c42] at H
                              have c42b0 : (a1 == 10) = true := beq_iff_eq.mpr c42
                              have c42b1 : (a1 != 10) = false := bne_eq_false_iff_eq.mpr c42
                              clear c42
                              replace H := Option.bind_eq_some_iff.mp H
                              obtain ⟨⟨t532, t535, t536⟩, A430, H⟩ := H
                              replace H : (some (t532, t535, t536)) = some (r1, r2, r3) := H
                              have A43 := Aside0.mk A430
                              clear A430
                              simp only [Option.some.injEq, Prod.mk.injEq] at H
                              obtain ⟨rfl, rfl, rfl⟩ := H
                              go_wp2_with (first | ((with_reducible refine gate_callee (f := 31) rfl ?_); refine goesL_ (some 108) rfl rfl Tryd.func31 (by kernel_rfl) rfl #[.int .i64 a0] rfl (by (try simp only [List.map_toArray, List.map_cons, List.map_nil]); first | done | rfl | (simp only [List.length_drop, List.length_take]; rfl)) ?_; (with_reducible refine (portreeveref11_end.calls a0 t532 t535 t536 _ A43.out).mono ?_); rintro e w44 ⟨v533, rfl, ho0, hb⟩; refine ⟨_, rfl, ?_⟩; have n0_ := Aside0.mk (Kd.V_lower (Kd.V_mono (ok' := fun k_ => (w.heap.size ≤ k_)) ho0 (fun k_ hk_ => (Nat.le_trans (below_size (by repeat (first | (with_reducible first | exact HB.out | apply pA | apply pN | apply pD) | exact HB.out))) hk_))) (below_size (by repeat (first | (with_reducible first | exact HB.out | apply pA | apply pN | apply pD) | exact HB.out)))); have n1_ := Aside0.mk (below_step (by repeat (first | (with_reducible first | exact HB.out | apply pA | apply pN | apply pD) | exact HB.out)) hb); clear HB; have HO534 := n0_; have HB := n1_; clear n0_ n1_; (try clear hb); (try clear hb2); (try clear hk); (try clear hi); (try clear ho0)))
                              go_ret3
                              exact ⟨_, by first | rfl | (simp [errW_none, errW_some] <;> rfl) | (simp [*, errW_none, errW_some] <;> rfl), by (with_reducible repeat (first | apply Kd.V_alloc | apply Kd.V_drewN | apply Kd.V_drew)); exact HO534.out, by repeat (first | (with_reducible first | exact HB.out | apply pA | apply pN | apply pD) | exact HB.out)⟩
                            · rw [if_neg c42] at H
                              have c42b0 : (a1 == 10) = false := beq_eq_false_iff_ne.mpr c42
                              have c42b1 : (a1 != 10) = true := bne_iff_ne.mpr c42
                              by_cases c45 : a1 = 11
                              · rw [if_pos c45] at H
                                have c45b0 : (a1 == 11) = true := beq_iff_eq.mpr c45
                                have c45b1 : (a1 != 11) = false := bne_eq_false_iff_eq.mpr c45
                                clear c45
                                replace H := Option.bind_eq_some_iff.mp H
                                obtain ⟨⟨t537, t540, t541⟩, A460, H⟩ := H
                                replace H : (some (t537, t540, t541)) = some (r1, r2, r3) := H
                                have A46 := Aside0.mk A460
                                clear A460
                                simp only [Option.some.injEq, Prod.mk.injEq] at H
                                obtain ⟨rfl, rfl, rfl⟩ := H
                                go_wp2_with (first | ((with_reducible refine gate_callee (f := 32) rfl ?_); refine goesL_ (some 115) rfl rfl Tryd.func32 (by kernel_rfl) rfl #[.int .i64 a0] rfl (by (try simp only [List.map_toArray, List.map_cons, List.map_nil]); first | done | rfl | (simp only [List.length_drop, List.length_take]; rfl)) ?_; (with_reducible refine (portreeveref11_ended.calls a0 t537 t540 t541 _ A46.out).mono ?_); rintro e w47 ⟨v538, rfl, ho0, hb⟩; refine ⟨_, rfl, ?_⟩; have n0_ := Aside0.mk (Kd.V_lower (Kd.V_mono (ok' := fun k_ => (w.heap.size ≤ k_)) ho0 (fun k_ hk_ => (Nat.le_trans (below_size (by repeat (first | (with_reducible first | exact HB.out | apply pA | apply pN | apply pD) | exact HB.out))) hk_))) (below_size (by repeat (first | (with_reducible first | exact HB.out | apply pA | apply pN | apply pD) | exact HB.out)))); have n1_ := Aside0.mk (below_step (by repeat (first | (with_reducible first | exact HB.out | apply pA | apply pN | apply pD) | exact HB.out)) hb); clear HB; have HO539 := n0_; have HB := n1_; clear n0_ n1_; (try clear hb); (try clear hb2); (try clear hk); (try clear hi); (try clear ho0)))
                                go_ret3
                                exact ⟨_, by first | rfl | (simp [errW_none, errW_some] <;> rfl) | (simp [*, errW_none, errW_some] <;> rfl), by (with_reducible repeat (first | apply Kd.V_alloc | apply Kd.V_drewN | apply Kd.V_drew)); exact HO539.out, by repeat (first | (with_reducible first | exact HB.out | apply pA | apply pN | apply pD) | exact HB.out)⟩
                              · rw [if_neg c45] at H
                                have c45b0 : (a1 == 11) = false := beq_eq_false_iff_ne.mpr c45
                                have c45b1 : (a1 != 11) = true := bne_iff_ne.mpr c45
                                by_cases c48 : a1 = 12
                                · rw [if_pos c48] at H
                                  have c48b0 : (a1 == 12) = true := beq_iff_eq.mpr c48
                                  have c48b1 : (a1 != 12) = false := bne_eq_false_iff_eq.mpr c48
                                  clear c48
                                  obtain ⟨y542, hy542⟩ : ∃ y_ : List Int, y_ = (([12] : List Int)) := ⟨_, rfl⟩
                                  replace H : ((portreeveref11_to.f a0 y542).bind fun bt545 => (some (bt545.1, bt545.2.1, bt545.2.2))) = some (r1, r2, r3) := by first | (rw [hy542]; with_reducible exact H) | (have H2_ := (Option.bind_some _ _).symm.trans H; rw [hy542]; with_reducible exact H2_) | (have H2_ := (Option.bind_some _ _).symm.trans H; with_reducible exact H2_) | with_reducible exact H | (rw [hy542]; exact H) | exact H
                                  have Ny542 := Aside0.mk hy542
                                  clear hy542
                                  replace H := Option.bind_eq_some_iff.mp H
                                  obtain ⟨⟨t545, t548, t549⟩, A490, H⟩ := H
                                  replace H : (some (t545, t548, t549)) = some (r1, r2, r3) := H
                                  have A49 := Aside0.mk A490
                                  clear A490
                                  simp only [Option.some.injEq, Prod.mk.injEq] at H
                                  obtain ⟨rfl, rfl, rfl⟩ := H
                                  go_wp2_with (first | ((with_reducible refine gate_dst (N := 122) rfl ?_); refine Kd.R_lit (Kd.int .i64) _ 3 ?hg (N := 122) ?hd (xs := ([12] : List Int)) (inner := [.int .i64 12]) (ok := fun _ => True) (okp := fun _ => True) ?hr ?hp (fun _ hk => hk) trivial (Below.refl _ _) (Nat.le_refl _) (by simp) ?_; (case hd => rfl); (case hg => rfl); (case hr => first | (go_simp; done) | (go_simp; rfl)); (case hp => exact (Reps.one (show Kd.M (Kd.int .i64) _ _ _ 12 [.int .i64 12] from rfl) (Reps.none _ _))); intro v543 w50 ho51 hb hg_ hnew_; clear hg_ hnew_; (first | rw [← Ny542.out] at ho51 | (simp only [Int.reduceToNat] at ho51; rw [← Ny542.out] at ho51)); have n0_ := Aside0.mk (Kd.R_lower (Kd.R_newM (M := fun k_ => (w.heap.size ≤ k_)) ho51 (below_size (by repeat (first | (with_reducible first | exact HB.out | apply pA | apply pN | apply pD) | exact HB.out))) (fun k_ h_ => h_)) (below_size (by repeat (first | (with_reducible first | exact HB.out | apply pA | apply pN | apply pD) | exact HB.out)))); have n1_ := Aside0.mk (below_step (by repeat (first | (with_reducible first | exact HB.out | apply pA | apply pN | apply pD) | exact HB.out)) hb); clear HB; have HO544 := n0_; have HB := n1_; clear n0_ n1_; clear hb ho51; obtain ⟨Ao52, co52, eo52⟩ := Kd.R_slice HO544.out; subst eo52) | ((with_reducible refine gate_callee (f := 33) rfl ?_); refine goesL_ (some 123) rfl rfl Tryd.func33 (by kernel_rfl) rfl #[.int .i64 a0, .slice Ao52 y542.length co52] rfl (by (try simp only [List.map_toArray, List.map_cons, List.map_nil]); first | done | rfl | (simp only [List.length_drop, List.length_take]; rfl)) ?_; (with_reducible refine (portreeveref11_to.calls a0 (fun k_ => some k_ = (.slice Ao52 y542.length co52 : Value).ownBlock) _ _ y542 t545 t548 t549 _ ?side1 A49.out).mono ?_); (case side1 => exact Kd.R_V (Kd.R_tight rfl (HO544.out))); rintro e w53 ⟨v546, rfl, ho0, hb⟩; refine ⟨_, rfl, ?_⟩; have n0_ := Aside0.mk (Kd.R_below (by (with_reducible repeat (first | apply Kd.R_alloc | apply Kd.R_drewN | apply Kd.R_drew)); exact HO544.out) hb); have n1_ := Aside0.mk (Kd.V_lower (Kd.V_mono (ok' := fun k_ => (w.heap.size ≤ k_)) ho0 (fun k_ hk_ => Or.elim hk_ (fun hs_ => ((HO544.out).1 k_ hs_.symm).1) (fun hn_ => (Nat.le_trans (below_size (by repeat (first | (with_reducible first | exact HB.out | apply pA | apply pN | apply pD) | exact HB.out))) hn_)))) (below_size (by repeat (first | (with_reducible first | exact HB.out | apply pA | apply pN | apply pD) | exact HB.out)))); have n2_ := Aside0.mk (below_step (by repeat (first | (with_reducible first | exact HB.out | apply pA | apply pN | apply pD) | exact HB.out)) hb); clear HO544; clear HB; have HO544 := n0_; have HO547 := n1_; have HB := n2_; clear n0_ n1_ n2_; (try clear hb); (try clear hb2); (try clear hk); (try clear hi); (try clear ho0)))
                                  go_ret3
                                  exact ⟨_, by first | rfl | (simp [errW_none, errW_some] <;> rfl) | (simp [*, errW_none, errW_some] <;> rfl), by (with_reducible repeat (first | apply Kd.V_alloc | apply Kd.V_drewN | apply Kd.V_drew)); exact HO547.out, by repeat (first | (with_reducible first | exact HB.out | apply pA | apply pN | apply pD) | exact HB.out)⟩
                                · rw [if_neg c48] at H
                                  have c48b0 : (a1 == 12) = false := beq_eq_false_iff_ne.mpr c48
                                  have c48b1 : (a1 != 12) = true := bne_iff_ne.mpr c48
                                  by_cases c54 : a1 = 13
                                  · rw [if_pos c54] at H
                                    have c54b0 : (a1 == 13) = true := beq_iff_eq.mpr c54
                                    have c54b1 : (a1 != 13) = false := bne_eq_false_iff_eq.mpr c54
                                    clear c54
                                    replace H := Option.bind_eq_some_iff.mp H
                                    obtain ⟨⟨t550, t553, t554⟩, A550, H⟩ := H
                                    replace H : (some (t550, t553, t554)) = some (r1, r2, r3) := H
                                    have A55 := Aside0.mk A550
                                    clear A550
                                    simp only [Option.some.injEq, Prod.mk.injEq] at H
                                    obtain ⟨rfl, rfl, rfl⟩ := H
                                    go_wp2_with (first | ((with_reducible refine gate_callee (f := 34) rfl ?_); refine goesL_ (some 130) rfl rfl Tryd.func34 (by kernel_rfl) rfl #[.int .i64 a0, .bool true] rfl (by (try simp only [List.map_toArray, List.map_cons, List.map_nil]); first | done | rfl | (simp only [List.length_drop, List.length_take]; rfl)) ?_; (with_reducible refine (portreeveref11_reject.calls kj2 a0 true t550 t553 t554 _ A55.out).mono ?_); rintro e w56 ⟨v551, rfl, ho0, hb⟩; refine ⟨_, rfl, ?_⟩; have n0_ := Aside0.mk (Kd.V_lower (Kd.V_mono (ok' := fun k_ => (w.heap.size ≤ k_)) ho0 (fun k_ hk_ => (Nat.le_trans (below_size (by repeat (first | (with_reducible first | exact HB.out | apply pA | apply pN | apply pD) | exact HB.out))) hk_))) (below_size (by repeat (first | (with_reducible first | exact HB.out | apply pA | apply pN | apply pD) | exact HB.out)))); have n1_ := Aside0.mk (below_step (by repeat (first | (with_reducible first | exact HB.out | apply pA | apply pN | apply pD) | exact HB.out)) hb); clear HB; have HO552 := n0_; have HB := n1_; clear n0_ n1_; (try clear hb); (try clear hb2); (try clear hk); (try clear hi); (try clear ho0)))
                                    go_ret3
                                    exact ⟨_, by first | rfl | (simp [errW_none, errW_some] <;> rfl) | (simp [*, errW_none, errW_some] <;> rfl), by (with_reducible repeat (first | apply Kd.V_alloc | apply Kd.V_drewN | apply Kd.V_drew)); exact HO552.out, by repeat (first | (with_reducible first | exact HB.out | apply pA | apply pN | apply pD) | exact HB.out)⟩
                                  · rw [if_neg c54] at H
                                    have c54b0 : (a1 == 13) = false := beq_eq_false_iff_ne.mpr c54
                                    have c54b1 : (a1 != 13) = true := bne_iff_ne.mpr c54
                                    by_cases c57 : a1 = 14
                                    · rw [if_pos c57] at H
                                      have c57b0 : (a1 == 14) = true := beq_iff_eq.mpr c57
                                      have c57b1 : (a1 != 14) = false := bne_eq_false_iff_eq.mpr c57
                                      clear c57
                                      replace H := Option.bind_eq_some_iff.mp H
                                      obtain ⟨⟨t555, t558, t559⟩, A580, H⟩ := H
                                      replace H : (some (t555, t558, t559)) = some (r1, r2, r3) := H
                                      have A58 := Aside0.mk A580
                                      clear A580
                                      simp only [Option.some.injEq, Prod.mk.injEq] at H
                                      obtain ⟨rfl, rfl, rfl⟩ := H
                                      go_wp2_with (first | ((with_reducible refine gate_callee (f := 34) rfl ?_); refine goesL_ (some 137) rfl rfl Tryd.func34 (by kernel_rfl) rfl #[.int .i64 a0, .bool false] rfl (by (try simp only [List.map_toArray, List.map_cons, List.map_nil]); first | done | rfl | (simp only [List.length_drop, List.length_take]; rfl)) ?_; (with_reducible refine (portreeveref11_reject.calls kj2 a0 false t555 t558 t559 _ A58.out).mono ?_); rintro e w59 ⟨v556, rfl, ho0, hb⟩; refine ⟨_, rfl, ?_⟩; have n0_ := Aside0.mk (Kd.V_lower (Kd.V_mono (ok' := fun k_ => (w.heap.size ≤ k_)) ho0 (fun k_ hk_ => (Nat.le_trans (below_size (by repeat (first | (with_reducible first | exact HB.out | apply pA | apply pN | apply pD) | exact HB.out))) hk_))) (below_size (by repeat (first | (with_reducible first | exact HB.out | apply pA | apply pN | apply pD) | exact HB.out)))); have n1_ := Aside0.mk (below_step (by repeat (first | (with_reducible first | exact HB.out | apply pA | apply pN | apply pD) | exact HB.out)) hb); clear HB; have HO557 := n0_; have HB := n1_; clear n0_ n1_; (try clear hb); (try clear hb2); (try clear hk); (try clear hi); (try clear ho0)))
                                      go_ret3
                                      exact ⟨_, by first | rfl | (simp [errW_none, errW_some] <;> rfl) | (simp [*, errW_none, errW_some] <;> rfl), by (with_reducible repeat (first | apply Kd.V_alloc | apply Kd.V_drewN | apply Kd.V_drew)); exact HO557.out, by repeat (first | (with_reducible first | exact HB.out | apply pA | apply pN | apply pD) | exact HB.out)⟩
                                    · rw [if_neg c57] at H
                                      have c57b0 : (a1 == 14) = false := beq_eq_false_iff_ne.mpr c57
                                      have c57b1 : (a1 != 14) = true := bne_iff_ne.mpr c57
                                      by_cases c60 : a0 = 9
                                      · rw [if_pos c60] at H
                                        have c60b0 : (a0 == 9) = true := beq_iff_eq.mpr c60
                                        have c60b1 : (a0 != 9) = false := bne_eq_false_iff_eq.mpr c60
                                        clear c60
                                        obtain ⟨y560, hy560⟩ : ∃ y_ : List Int, y_ = (([13] : List Int)) := ⟨_, rfl⟩
                                        replace H : ((portreeveref11_to.f 9 y560).bind fun bt563 => (some (bt563.1, bt563.2.1, bt563.2.2))) = some (r1, r2, r3) := by first | (rw [hy560]; with_reducible exact H) | (have H2_ := (Option.bind_some _ _).symm.trans H; rw [hy560]; with_reducible exact H2_) | (have H2_ := (Option.bind_some _ _).symm.trans H; with_reducible exact H2_) | with_reducible exact H | (rw [hy560]; exact H) | exact H
                                        have Ny560 := Aside0.mk hy560
                                        clear hy560
                                        replace H := Option.bind_eq_some_iff.mp H
                                        obtain ⟨⟨t563, t566, t567⟩, A610, H⟩ := H
                                        replace H : (some (t563, t566, t567)) = some (r1, r2, r3) := H
                                        have A61 := Aside0.mk A610
                                        clear A610
                                        simp only [Option.some.injEq, Prod.mk.injEq] at H
                                        obtain ⟨rfl, rfl, rfl⟩ := H
                                        go_wp2_with (first | ((with_reducible refine gate_dst (N := 143) rfl ?_); refine Kd.R_lit (Kd.int .i64) _ 3 ?hg (N := 143) ?hd (xs := ([13] : List Int)) (inner := [.int .i64 13]) (ok := fun _ => True) (okp := fun _ => True) ?hr ?hp (fun _ hk => hk) trivial (Below.refl _ _) (Nat.le_refl _) (by simp) ?_; (case hd => rfl); (case hg => rfl); (case hr => first | (go_simp; done) | (go_simp; rfl)); (case hp => exact (Reps.one (show Kd.M (Kd.int .i64) _ _ _ 13 [.int .i64 13] from rfl) (Reps.none _ _))); intro v561 w62 ho63 hb hg_ hnew_; clear hg_ hnew_; (first | rw [← Ny560.out] at ho63 | (simp only [Int.reduceToNat] at ho63; rw [← Ny560.out] at ho63)); have n0_ := Aside0.mk (Kd.R_lower (Kd.R_newM (M := fun k_ => (w.heap.size ≤ k_)) ho63 (below_size (by repeat (first | (with_reducible first | exact HB.out | apply pA | apply pN | apply pD) | exact HB.out))) (fun k_ h_ => h_)) (below_size (by repeat (first | (with_reducible first | exact HB.out | apply pA | apply pN | apply pD) | exact HB.out)))); have n1_ := Aside0.mk (below_step (by repeat (first | (with_reducible first | exact HB.out | apply pA | apply pN | apply pD) | exact HB.out)) hb); clear HB; have HO562 := n0_; have HB := n1_; clear n0_ n1_; clear hb ho63; obtain ⟨Ao64, co64, eo64⟩ := Kd.R_slice HO562.out; subst eo64) | ((with_reducible refine gate_callee (f := 33) rfl ?_); refine goesL_ (some 144) rfl rfl Tryd.func33 (by kernel_rfl) rfl #[.int .i64 9, .slice Ao64 y560.length co64] rfl (by (try simp only [List.map_toArray, List.map_cons, List.map_nil]); first | done | rfl | (simp only [List.length_drop, List.length_take]; rfl)) ?_; (with_reducible refine (portreeveref11_to.calls 9 (fun k_ => some k_ = (.slice Ao64 y560.length co64 : Value).ownBlock) _ _ y560 t563 t566 t567 _ ?side1 A61.out).mono ?_); (case side1 => exact Kd.R_V (Kd.R_tight rfl (HO562.out))); rintro e w65 ⟨v564, rfl, ho0, hb⟩; refine ⟨_, rfl, ?_⟩; have n0_ := Aside0.mk (Kd.R_below (by (with_reducible repeat (first | apply Kd.R_alloc | apply Kd.R_drewN | apply Kd.R_drew)); exact HO562.out) hb); have n1_ := Aside0.mk (Kd.V_lower (Kd.V_mono (ok' := fun k_ => (w.heap.size ≤ k_)) ho0 (fun k_ hk_ => Or.elim hk_ (fun hs_ => ((HO562.out).1 k_ hs_.symm).1) (fun hn_ => (Nat.le_trans (below_size (by repeat (first | (with_reducible first | exact HB.out | apply pA | apply pN | apply pD) | exact HB.out))) hn_)))) (below_size (by repeat (first | (with_reducible first | exact HB.out | apply pA | apply pN | apply pD) | exact HB.out)))); have n2_ := Aside0.mk (below_step (by repeat (first | (with_reducible first | exact HB.out | apply pA | apply pN | apply pD) | exact HB.out)) hb); clear HO562; clear HB; have HO562 := n0_; have HO565 := n1_; have HB := n2_; clear n0_ n1_ n2_; (try clear hb); (try clear hb2); (try clear hk); (try clear hi); (try clear ho0)))
                                        go_ret3
                                        exact ⟨_, by first | rfl | (simp [errW_none, errW_some] <;> rfl) | (simp [*, errW_none, errW_some] <;> rfl), by (with_reducible repeat (first | apply Kd.V_alloc | apply Kd.V_drewN | apply Kd.V_drew)); exact HO565.out, by repeat (first | (with_reducible first | exact HB.out | apply pA | apply pN | apply pD) | exact HB.out)⟩
                                      · rw [if_neg c60] at H
                                        have c60b0 : (a0 == 9) = false := beq_eq_false_iff_ne.mpr c60
                                        have c60b1 : (a0 != 9) = true := bne_iff_ne.mpr c60
                                        replace H := Option.bind_eq_some_iff.mp H
                                        obtain ⟨⟨t568, t569, t570⟩, A660, H⟩ := H
                                        replace H : (some (t568, t569, t570)) = some (r1, r2, r3) := H
                                        have A66 := Aside0.mk A660
                                        clear A660
                                        simp only [Option.some.injEq, Prod.mk.injEq] at H
                                        obtain ⟨rfl, rfl, rfl⟩ := H
                                        go_wp2_with (first | ((with_reducible refine gate_callee (f := 35) rfl ?_); refine goesL_ (some 149) rfl rfl Tryd.func35 (by kernel_rfl) rfl #[.int .i64 a0] rfl (by (try simp only [List.map_toArray, List.map_cons, List.map_nil]); first | done | rfl | (simp only [List.length_drop, List.length_take]; rfl)) ?_; (with_reducible refine (portreeveref11_stay.calls a0 t568 t569 t570 _ A66.out).mono ?_); rintro e w67 ⟨v571, rfl, ho0, hb⟩; refine ⟨_, rfl, ?_⟩; have n0_ := Aside0.mk (Kd.R_lower (Kd.R_newM (M := fun k_ => (w.heap.size ≤ k_)) ho0 (below_size (by repeat (first | (with_reducible first | exact HB.out | apply pA | apply pN | apply pD) | exact HB.out))) (fun k_ h_ => h_)) (below_size (by repeat (first | (with_reducible first | exact HB.out | apply pA | apply pN | apply pD) | exact HB.out)))); have n1_ := Aside0.mk (below_step (by repeat (first | (with_reducible first | exact HB.out | apply pA | apply pN | apply pD) | exact HB.out)) hb); clear HB; have HO572 := n0_; have HB := n1_; clear n0_ n1_; (try clear hb); (try clear hb2); (try clear hk); (try clear hi); (try clear ho0)))
                                        go_ret3
                                        exact ⟨_, by first | rfl | (simp [errW_none, errW_some] <;> rfl) | (simp [*, errW_none, errW_some] <;> rfl), Kd.R_V (by (with_reducible repeat (first | apply Kd.R_alloc | apply Kd.R_drewN | apply Kd.R_drew)); exact Kd.R_mono HO572.out (fun _ hk => hk.1)), by repeat (first | (with_reducible first | exact HB.out | apply pA | apply pN | apply pD) | exact HB.out)⟩

/-! ### portreeveref11_Ints: function 14 -/
def portreeveref11_Ints.l0 : Nat → List Int → List Int → Int → Option (Bool)
  | 0, _, _, _ => none
  | k + 1, x0, x1, x5 => if x5 < (x0.length : Int) then (if 0 ≤ x5 then (if x5 < (x1.length : Int) then (if (rd x0 x5) = (rd x1 x5) then (portreeveref11_Ints.l0 k x0 x1 (wrap64 (x5 + 1))) else (some false)) else (none)) else (none)) else (some true)
def portreeveref11_Ints.f (k : Nat) (l0 : List Int) (l1 : List Int) : Option (Bool) := if (l0.length : Int) = (l1.length : Int) then (portreeveref11_Ints.l0 k l0 l1 0) else (some false)
theorem portreeveref11_Ints.mono_l : ∀ k, (∀ y0 y1 y2, LeO (portreeveref11_Ints.l0 k y0 y1 y2) (portreeveref11_Ints.l0 (k + 1) y0 y1 y2))
  | 0 => fun _ _ _ r h => by simp [portreeveref11_Ints.l0] at h
  | k + 1 => by
    have ih0 := portreeveref11_Ints.mono_l k
    · intro y0 y1 y2
      unfold portreeveref11_Ints.l0
      repeat' first
      | (with_reducible exact ih0 _ _ _)
      | (with_reducible exact LeO.refl _)
      | (with_reducible exact LeO.none _)
      | (with_reducible refine LeO.ite ?_ ?_)
      | (with_reducible refine LeO.bind ?_ (fun _ => ?_))
      | exact ih0 _ _ _
      | exact LeO.none _
      | refine LeO.ite ?_ ?_
      | refine LeO.bind ?_ (fun _ => ?_)
theorem portreeveref11_Ints.mono : ∀ a0 a1 k, LeO (portreeveref11_Ints.f k a0 a1) (portreeveref11_Ints.f (k + 1) a0 a1) := by
  intro a0 a1 k
  have ih0 := portreeveref11_Ints.mono_l k
  unfold portreeveref11_Ints.f
  repeat' first
      | (with_reducible exact ih0 _ _ _)
      | (with_reducible exact LeO.refl _)
      | (with_reducible exact LeO.none _)
      | (with_reducible refine LeO.ite ?_ ?_)
      | (with_reducible refine LeO.bind ?_ (fun _ => ?_))
      | exact ih0 _ _ _
      | exact LeO.none _
      | refine LeO.ite ?_ ?_
      | refine LeO.bind ?_ (fun _ => ?_)
set_option maxHeartbeats 8000000 in
set_option maxRecDepth 100000 in
theorem portreeveref11_Ints.calls (k : Nat) (A0 : Option Addr) (c0 : Nat) (l0 : List Int) (A1 : Option Addr) (c1 : Nat) (l1 : List Int) (r : Bool) (w : World) (hr0 : Kd.C (Kd.int .i64) w A0 l0.length l0) (hc0 : l0.length ≤ c0) (hr1 : Kd.C (Kd.int .i64) w A1 l1.length l1) (hc1 : l1.length ≤ c1) (h : portreeveref11_Ints.f k l0 l1 = some r) :
    Calls Tryd.prog 14 #[.slice A0 l0.length c0, .slice A1 l1.length c1] w fun e w' => e = .returned (.bool r) ∧ Drawn0 w w' := by
  have HR0 := Aside0.mk hr0
  have HC0 := Aside0.mk hc0
  clear hr0 hc0
  have HR1 := Aside0.mk hr1
  have HC1 := Aside0.mk hc1
  clear hr1 hc1
  have H : (if (l0.length : Int) = (l1.length : Int) then (portreeveref11_Ints.l0 k l0 l1 0) else (some false)) = some r := h
  clear h
  by_cases c3 : (l0.length : Int) = (l1.length : Int)
  · rw [if_pos c3] at H
    have c3b0 : ((l0.length : Int) == (l1.length : Int)) = true := beq_iff_eq.mpr c3
    have c3b1 : ((l0.length : Int) != (l1.length : Int)) = false := bne_eq_false_iff_eq.mpr c3
    have c3b2 : (l0.length == l1.length) = true := by first | simpa using c3 | (simp at c3 ⊢; omega)
    clear c3
    have H' := Aside0.mk H
    clear H
    go_enter Tryd.func14, Tryd.ntmps14
    go_wp2
    repeat (go_quiet (fail); try go_wp2)
    go_loopg [5] k (fun kq v5 w' => ∃ (x5_1 : Int), v5 = .int .i64 x5_1 ∧ Aside0 (portreeveref11_Ints.l0 kq l0 l1 x5_1 = some r) ∧ Aside0 (kq ≤ k) ∧ Drawn0 w w')
    case atStart => exact ⟨(0), (by first | rfl | (simp; done) | (simp [*]; done)), H', ⟨Nat.le_refl _⟩, by repeat (first | exact Drawn0.refl _ | apply Drawn0.step)⟩
    case round =>
      clear H'
      try clear c1
      try clear p2
      try clear c3
      try clear c3b0
      try clear c3b1
      try clear c3b2
      obtain ⟨x5_1, rfl, HA, HK1, ⟨m1, rfl⟩⟩ := hrel
      cases gk with
      | zero => exact absurd HA.out (by simp [portreeveref11_Ints.l0])
      | succ k1 =>
        have H := HA.out
        clear HA
        simp only [portreeveref11_Ints.l0] at H
        by_cases c4 : x5_1 < (l0.length : Int)
        · rw [if_pos c4] at H
          have c4b0 : decide (x5_1 < (l0.length : Int)) = true := decide_eq_true c4
          clear c4
          by_cases c5 : 0 ≤ x5_1
          · rw [if_pos c5] at H
            have c5b0 : decide (0 ≤ x5_1) = true := decide_eq_true c5
            clear c5
            by_cases c6 : x5_1 < (l1.length : Int)
            · rw [if_pos c6] at H
              have c6b0 : decide (x5_1 < (l1.length : Int)) = true := decide_eq_true c6
              clear c6
              by_cases c7 : (rd l0 x5_1) = (rd l1 x5_1)
              · rw [if_pos c7] at H
                have c7b0 : ((rd l0 x5_1) == (rd l1 x5_1)) = true := beq_iff_eq.mpr c7
                have c7b1 : ((rd l0 x5_1) != (rd l1 x5_1)) = false := bne_eq_false_iff_eq.mpr c7
                clear c7
                have H' := Aside0.mk H
                clear H
                have p573 : 0 ≤ (x5_1 : Int) := of_decide_eq_true (by first | (with_reducible assumption) | assumption)
                have q573 : x5_1 < (l0.length : Int) := of_decide_eq_true (by first | (with_reducible assumption) | assumption)
                obtain ⟨ad573, e573, hx573_0⟩ := Kd.at_int HR0.out x5_1 p573 q573
                cases e573
                replace p573 := eq_true p573
                replace q573 := eq_true q573
                have p574 : 0 ≤ (x5_1 : Int) := of_decide_eq_true (by first | (with_reducible assumption) | assumption)
                have q574 : x5_1 < (l1.length : Int) := of_decide_eq_true (by first | (with_reducible assumption) | assumption)
                obtain ⟨ad574, e574, hx574_0⟩ := Kd.at_int HR1.out x5_1 p574 q574
                cases e574
                replace p574 := eq_true p574
                replace q574 := eq_true q574
                go_wp2
                repeat (go_quiet (fail); try go_wp2)
                go_roundg k1
                case measure => have := HK1.out; omega
                case rel => exact ⟨(wrap64 (x5_1 + 1)), (by first | rfl | (simp; done) | (simp [*]; done)), H', ⟨by have := HK1.out; omega⟩, by repeat (first | exact Drawn0.refl _ | apply Drawn0.step)⟩
              · rw [if_neg c7] at H
                have c7b0 : ((rd l0 x5_1) == (rd l1 x5_1)) = false := beq_eq_false_iff_ne.mpr c7
                have c7b1 : ((rd l0 x5_1) != (rd l1 x5_1)) = true := bne_iff_ne.mpr c7
                obtain rfl := Option.some.inj H
                have p573 : 0 ≤ (x5_1 : Int) := of_decide_eq_true (by first | (with_reducible assumption) | assumption)
                have q573 : x5_1 < (l0.length : Int) := of_decide_eq_true (by first | (with_reducible assumption) | assumption)
                obtain ⟨ad573, e573, hx573_0⟩ := Kd.at_int HR0.out x5_1 p573 q573
                cases e573
                replace p573 := eq_true p573
                replace q573 := eq_true q573
                have p574 : 0 ≤ (x5_1 : Int) := of_decide_eq_true (by first | (with_reducible assumption) | assumption)
                have q574 : x5_1 < (l1.length : Int) := of_decide_eq_true (by first | (with_reducible assumption) | assumption)
                obtain ⟨ad574, e574, hx574_0⟩ := Kd.at_int HR1.out x5_1 p574 q574
                cases e574
                replace p574 := eq_true p574
                replace q574 := eq_true q574
                go_wp2
                repeat (go_quiet (fail); try go_wp2)
                go_ret
                exact ⟨by first | rfl | (simp; done) | (simp [*]; done), by repeat (first | exact Drawn0.refl _ | apply Drawn0.step)⟩
            · rw [if_neg c6] at H
              exact absurd H (by simp)
          · rw [if_neg c5] at H
            exact absurd H (by simp)
        · rw [if_neg c4] at H
          have c4b0 : decide (x5_1 < (l0.length : Int)) = false := decide_eq_false c4
          clear c4
          obtain rfl := Option.some.inj H
          go_wp2
          repeat (go_quiet (fail); try go_wp2)
          go_ret
          exact ⟨by first | rfl | (simp; done) | (simp [*]; done), by repeat (first | exact Drawn0.refl _ | apply Drawn0.step)⟩
  · rw [if_neg c3] at H
    have c3b0 : ((l0.length : Int) == (l1.length : Int)) = false := beq_eq_false_iff_ne.mpr c3
    have c3b1 : ((l0.length : Int) != (l1.length : Int)) = true := bne_iff_ne.mpr c3
    have c3b2 : (l0.length == l1.length) = false := by first | simpa using c3 | (simp at c3 ⊢; omega)
    obtain rfl := Option.some.inj H
    go_enter Tryd.func14, Tryd.ntmps14
    go_wp2
    repeat (go_quiet (fail); try go_wp2)
    go_ret
    exact ⟨by first | rfl | (simp; done) | (simp [*]; done), by repeat (first | exact Drawn0.refl _ | apply Drawn0.step)⟩

/-! ### portreeveref11_Timed: function 16 -/
def portreeveref11_Timed.f (a0 : Int) : Option (Bool) := if a0 ≥ 4 then (some (decide (a0 ≤ 8))) else (some false)
set_option maxHeartbeats 8000000 in
set_option maxRecDepth 100000 in
theorem portreeveref11_Timed.calls (a0 : Int) (r : Bool) (w : World) (h : portreeveref11_Timed.f a0 = some r) :
    Calls Tryd.prog 16 #[.int .i64 a0] w fun e w' => e = .returned (.bool r) ∧ Drawn0 w w' := by
  have H : (if a0 ≥ 4 then (some (decide (a0 ≤ 8))) else (some false)) = some r := h
  clear h
  by_cases c2 : a0 ≥ 4
  · rw [if_pos c2] at H
    have c2b0 : decide (4 ≤ a0) = true := decide_eq_true c2
    clear c2
    obtain rfl := Option.some.inj H
    go_enter Tryd.func16, Tryd.ntmps16
    go_wp2
    go_ret
    exact ⟨by first | rfl | (simp; done) | (simp [*]; done), by repeat (first | exact Drawn0.refl _ | apply Drawn0.step)⟩
  · rw [if_neg c2] at H
    have c2b0 : decide (4 ≤ a0) = false := decide_eq_false c2
    clear c2
    obtain rfl := Option.some.inj H
    go_enter Tryd.func16, Tryd.ntmps16
    go_wp2
    go_ret
    exact ⟨by first | rfl | (simp; done) | (simp [*]; done), by repeat (first | exact Drawn0.refl _ | apply Drawn0.step)⟩

/-! ### portreeveref11_Name: function 18 -/
def portreeveref11_Name.l0 : Nat → Int → List ByteArray → Int → Option (ByteArray)
  | 0, _, _, _ => none
  | k + 1, x0, x3, x4 => if x4 < 10 then (if x4 = x0 then (if 0 ≤ x4 then (if x4 < (x3.length : Int) then (some (rdOf ByteArray.empty x3 x4)) else (none)) else (none)) else (portreeveref11_Name.l0 k x0 x3 (wrap64 (x4 + 1)))) else (some (⟨#[]⟩ : ByteArray))
def portreeveref11_Name.f (k : Nat) (a0 : Int) : Option (ByteArray) := portreeveref11_Name.l0 k a0 (([(⟨#[73, 110, 105, 116, 105, 97, 108]⟩ : ByteArray), (⟨#[83, 116, 97, 114, 116, 105, 110, 103]⟩ : ByteArray), (⟨#[67, 108, 111, 115, 101, 100]⟩ : ByteArray), (⟨#[83, 116, 111, 112, 112, 101, 100]⟩ : ByteArray), (⟨#[67, 108, 111, 115, 105, 110, 103]⟩ : ByteArray), (⟨#[83, 116, 111, 112, 112, 105, 110, 103]⟩ : ByteArray), (⟨#[82, 101, 113, 45, 83, 101, 110, 116]⟩ : ByteArray), (⟨#[65, 99, 107, 45, 82, 99, 118, 100]⟩ : ByteArray), (⟨#[65, 99, 107, 45, 83, 101, 110, 116]⟩ : ByteArray), (⟨#[79, 112, 101, 110, 101, 100]⟩ : ByteArray)] : List ByteArray)) 0
theorem portreeveref11_Name.mono_l : ∀ k, (∀ y0 y1 y2, LeO (portreeveref11_Name.l0 k y0 y1 y2) (portreeveref11_Name.l0 (k + 1) y0 y1 y2))
  | 0 => fun _ _ _ r h => by simp [portreeveref11_Name.l0] at h
  | k + 1 => by
    have ih0 := portreeveref11_Name.mono_l k
    · intro y0 y1 y2
      unfold portreeveref11_Name.l0
      repeat' first
      | (with_reducible exact ih0 _ _ _)
      | (with_reducible exact LeO.refl _)
      | (with_reducible exact LeO.none _)
      | (with_reducible refine LeO.ite ?_ ?_)
      | (with_reducible refine LeO.bind ?_ (fun _ => ?_))
      | exact ih0 _ _ _
      | exact LeO.none _
      | refine LeO.ite ?_ ?_
      | refine LeO.bind ?_ (fun _ => ?_)
theorem portreeveref11_Name.mono : ∀ a0 k, LeO (portreeveref11_Name.f k a0) (portreeveref11_Name.f (k + 1) a0) := by
  intro a0 k
  have ih0 := portreeveref11_Name.mono_l k
  unfold portreeveref11_Name.f
  repeat' first
      | (with_reducible exact ih0 _ _ _)
      | (with_reducible exact LeO.refl _)
      | (with_reducible exact LeO.none _)
      | (with_reducible refine LeO.ite ?_ ?_)
      | (with_reducible refine LeO.bind ?_ (fun _ => ?_))
      | exact ih0 _ _ _
      | exact LeO.none _
      | refine LeO.ite ?_ ?_
      | refine LeO.bind ?_ (fun _ => ?_)
set_option maxHeartbeats 8000000 in
set_option maxRecDepth 100000 in
theorem portreeveref11_Name.calls (k : Nat) (a0 : Int) (r : ByteArray) (w : World) (h : portreeveref11_Name.f k a0 = some r) :
    Calls Tryd.prog 18 #[.int .i64 a0] w fun e w' => e = .returned (.string r) ∧ Below w.heap.size w w' := by
  have HB := Aside0.mk (Below.refl w.heap.size w)
  have H : (portreeveref11_Name.l0 k a0 (([(⟨#[73, 110, 105, 116, 105, 97, 108]⟩ : ByteArray), (⟨#[83, 116, 97, 114, 116, 105, 110, 103]⟩ : ByteArray), (⟨#[67, 108, 111, 115, 101, 100]⟩ : ByteArray), (⟨#[83, 116, 111, 112, 112, 101, 100]⟩ : ByteArray), (⟨#[67, 108, 111, 115, 105, 110, 103]⟩ : ByteArray), (⟨#[83, 116, 111, 112, 112, 105, 110, 103]⟩ : ByteArray), (⟨#[82, 101, 113, 45, 83, 101, 110, 116]⟩ : ByteArray), (⟨#[65, 99, 107, 45, 82, 99, 118, 100]⟩ : ByteArray), (⟨#[65, 99, 107, 45, 83, 101, 110, 116]⟩ : ByteArray), (⟨#[79, 112, 101, 110, 101, 100]⟩ : ByteArray)] : List ByteArray)) 0) = some r := h
  clear h
  obtain ⟨y575, hy575⟩ : ∃ y_ : List ByteArray, y_ = (([(⟨#[73, 110, 105, 116, 105, 97, 108]⟩ : ByteArray), (⟨#[83, 116, 97, 114, 116, 105, 110, 103]⟩ : ByteArray), (⟨#[67, 108, 111, 115, 101, 100]⟩ : ByteArray), (⟨#[83, 116, 111, 112, 112, 101, 100]⟩ : ByteArray), (⟨#[67, 108, 111, 115, 105, 110, 103]⟩ : ByteArray), (⟨#[83, 116, 111, 112, 112, 105, 110, 103]⟩ : ByteArray), (⟨#[82, 101, 113, 45, 83, 101, 110, 116]⟩ : ByteArray), (⟨#[65, 99, 107, 45, 82, 99, 118, 100]⟩ : ByteArray), (⟨#[65, 99, 107, 45, 83, 101, 110, 116]⟩ : ByteArray), (⟨#[79, 112, 101, 110, 101, 100]⟩ : ByteArray)] : List ByteArray)) := ⟨_, rfl⟩
  replace H : (portreeveref11_Name.l0 k a0 y575 0) = some r := by first | (rw [hy575]; with_reducible exact H) | (have H2_ := (Option.bind_some _ _).symm.trans H; rw [hy575]; with_reducible exact H2_) | (have H2_ := (Option.bind_some _ _).symm.trans H; with_reducible exact H2_) | with_reducible exact H | (rw [hy575]; exact H) | exact H
  have Ny575 := Aside0.mk hy575
  clear hy575
  have H' := Aside0.mk H
  clear H
  go_enter Tryd.func18, Tryd.ntmps18
  go_wp2_with (first | ((with_reducible refine gate_dst (N := 5) rfl ?_); refine Kd.R_lit Kd.string _ 9 ?hg (N := 5) ?hd (xs := ([(⟨#[73, 110, 105, 116, 105, 97, 108]⟩ : ByteArray), (⟨#[83, 116, 97, 114, 116, 105, 110, 103]⟩ : ByteArray), (⟨#[67, 108, 111, 115, 101, 100]⟩ : ByteArray), (⟨#[83, 116, 111, 112, 112, 101, 100]⟩ : ByteArray), (⟨#[67, 108, 111, 115, 105, 110, 103]⟩ : ByteArray), (⟨#[83, 116, 111, 112, 112, 105, 110, 103]⟩ : ByteArray), (⟨#[82, 101, 113, 45, 83, 101, 110, 116]⟩ : ByteArray), (⟨#[65, 99, 107, 45, 82, 99, 118, 100]⟩ : ByteArray), (⟨#[65, 99, 107, 45, 83, 101, 110, 116]⟩ : ByteArray), (⟨#[79, 112, 101, 110, 101, 100]⟩ : ByteArray)] : List ByteArray)) (inner := [.string (⟨#[73, 110, 105, 116, 105, 97, 108]⟩ : ByteArray), .string (⟨#[83, 116, 97, 114, 116, 105, 110, 103]⟩ : ByteArray), .string (⟨#[67, 108, 111, 115, 101, 100]⟩ : ByteArray), .string (⟨#[83, 116, 111, 112, 112, 101, 100]⟩ : ByteArray), .string (⟨#[67, 108, 111, 115, 105, 110, 103]⟩ : ByteArray), .string (⟨#[83, 116, 111, 112, 112, 105, 110, 103]⟩ : ByteArray), .string (⟨#[82, 101, 113, 45, 83, 101, 110, 116]⟩ : ByteArray), .string (⟨#[65, 99, 107, 45, 82, 99, 118, 100]⟩ : ByteArray), .string (⟨#[65, 99, 107, 45, 83, 101, 110, 116]⟩ : ByteArray), .string (⟨#[79, 112, 101, 110, 101, 100]⟩ : ByteArray)]) (ok := fun _ => True) (okp := fun _ => True) ?hr ?hp (fun _ hk => hk) trivial (Below.refl _ _) (Nat.le_refl _) (by simp) ?_; (case hd => rfl); (case hg => rfl); (case hr => first | (go_simp; done) | (go_simp; rfl)); (case hp => exact (Reps.one (show Kd.M Kd.string _ _ _ (⟨#[73, 110, 105, 116, 105, 97, 108]⟩ : ByteArray) [.string (⟨#[73, 110, 105, 116, 105, 97, 108]⟩ : ByteArray)] from rfl) (Reps.one (show Kd.M Kd.string _ _ _ (⟨#[83, 116, 97, 114, 116, 105, 110, 103]⟩ : ByteArray) [.string (⟨#[83, 116, 97, 114, 116, 105, 110, 103]⟩ : ByteArray)] from rfl) (Reps.one (show Kd.M Kd.string _ _ _ (⟨#[67, 108, 111, 115, 101, 100]⟩ : ByteArray) [.string (⟨#[67, 108, 111, 115, 101, 100]⟩ : ByteArray)] from rfl) (Reps.one (show Kd.M Kd.string _ _ _ (⟨#[83, 116, 111, 112, 112, 101, 100]⟩ : ByteArray) [.string (⟨#[83, 116, 111, 112, 112, 101, 100]⟩ : ByteArray)] from rfl) (Reps.one (show Kd.M Kd.string _ _ _ (⟨#[67, 108, 111, 115, 105, 110, 103]⟩ : ByteArray) [.string (⟨#[67, 108, 111, 115, 105, 110, 103]⟩ : ByteArray)] from rfl) (Reps.one (show Kd.M Kd.string _ _ _ (⟨#[83, 116, 111, 112, 112, 105, 110, 103]⟩ : ByteArray) [.string (⟨#[83, 116, 111, 112, 112, 105, 110, 103]⟩ : ByteArray)] from rfl) (Reps.one (show Kd.M Kd.string _ _ _ (⟨#[82, 101, 113, 45, 83, 101, 110, 116]⟩ : ByteArray) [.string (⟨#[82, 101, 113, 45, 83, 101, 110, 116]⟩ : ByteArray)] from rfl) (Reps.one (show Kd.M Kd.string _ _ _ (⟨#[65, 99, 107, 45, 82, 99, 118, 100]⟩ : ByteArray) [.string (⟨#[65, 99, 107, 45, 82, 99, 118, 100]⟩ : ByteArray)] from rfl) (Reps.one (show Kd.M Kd.string _ _ _ (⟨#[65, 99, 107, 45, 83, 101, 110, 116]⟩ : ByteArray) [.string (⟨#[65, 99, 107, 45, 83, 101, 110, 116]⟩ : ByteArray)] from rfl) (Reps.one (show Kd.M Kd.string _ _ _ (⟨#[79, 112, 101, 110, 101, 100]⟩ : ByteArray) [.string (⟨#[79, 112, 101, 110, 101, 100]⟩ : ByteArray)] from rfl) (Reps.none _ _)))))))))))); intro v576 w2 ho3 hb hg_ hnew_; clear hg_ hnew_; (first | rw [← Ny575.out] at ho3 | (simp only [Int.reduceToNat] at ho3; rw [← Ny575.out] at ho3)); have n0_ := Aside0.mk (Kd.R_lower ho3 (below_size (by repeat (first | (with_reducible first | exact HB.out | apply pA | apply pN | apply pD) | exact HB.out)))); have n1_ := Aside0.mk (below_step (by repeat (first | (with_reducible first | exact HB.out | apply pA | apply pN | apply pD) | exact HB.out)) hb); clear HB; have HO577 := n0_; have HB := n1_; clear n0_ n1_; clear hb ho3))
  go_loopg [4] k (fun kq v4 w' => ∃ (x4_1 : Int), v4 = .int .i64 x4_1 ∧ Aside0 (portreeveref11_Name.l0 kq a0 y575 x4_1 = some r) ∧ Aside0 (kq ≤ k) ∧ Aside0 (Kd.R Kd.string 9 w' w.heap.size (fun _ => True) v576 y575) ∧ Aside0 (Below w.heap.size w w'))
  case atStart => exact ⟨(0), (by first | rfl | (simp; done) | (simp [*]; done)), H', ⟨Nat.le_refl _⟩, ⟨by (with_reducible repeat (first | apply Kd.R_alloc | apply Kd.R_drewN | apply Kd.R_drew)); exact HO577.out⟩, ⟨by repeat (first | (with_reducible first | exact HB.out | apply pA | apply pN | apply pD) | exact HB.out)⟩⟩
  case round =>
    clear H'
    try clear c1
    try clear p2
    obtain ⟨x4_1, rfl, HA, HK1, HO_3, HB⟩ := hrel
    cases gk with
    | zero => exact absurd HA.out (by simp [portreeveref11_Name.l0])
    | succ k1 =>
      have H := HA.out
      clear HA
      simp only [portreeveref11_Name.l0] at H
      by_cases c4 : x4_1 < 10
      · rw [if_pos c4] at H
        have c4b0 : decide (x4_1 < 10) = true := decide_eq_true c4
        clear c4
        by_cases c5 : x4_1 = a0
        · rw [if_pos c5] at H
          have c5b0 : (x4_1 == a0) = true := beq_iff_eq.mpr c5
          have c5b1 : (x4_1 != a0) = false := bne_eq_false_iff_eq.mpr c5
          clear c5
          by_cases c6 : 0 ≤ x4_1
          · rw [if_pos c6] at H
            have c6b0 : decide (0 ≤ x4_1) = true := decide_eq_true c6
            clear c6
            by_cases c7 : x4_1 < (y575.length : Int)
            · rw [if_pos c7] at H
              have c7b0 : decide (x4_1 < (y575.length : Int)) = true := decide_eq_true c7
              clear c7
              obtain rfl := Option.some.inj H
              obtain ⟨Ao8, co8, eo8⟩ := Kd.R_slice HO_3.out
              subst eo8
              have p578 : 0 ≤ (x4_1 : Int) := of_decide_eq_true (by first | (with_reducible assumption) | assumption)
              have q578 : x4_1 < (y575.length : Int) := of_decide_eq_true (by first | (with_reducible assumption) | assumption)
              obtain ⟨ad578, e578, hx578_0⟩ := Kd.at_string (Kd.R_reads' HO_3.out).2.2 x4_1 p578 q578
              cases e578
              replace p578 := eq_true p578
              replace q578 := eq_true q578
              go_wp2
              go_ret
              exact ⟨by first | rfl | (simp [errW_none, errW_some] <;> rfl) | (simp [*, errW_none, errW_some] <;> rfl), by repeat (first | (with_reducible first | exact HB.out | apply pA | apply pN | apply pD) | exact HB.out)⟩
            · rw [if_neg c7] at H
              exact absurd H (by simp)
          · rw [if_neg c6] at H
            exact absurd H (by simp)
        · rw [if_neg c5] at H
          have c5b0 : (x4_1 == a0) = false := beq_eq_false_iff_ne.mpr c5
          have c5b1 : (x4_1 != a0) = true := bne_iff_ne.mpr c5
          have H' := Aside0.mk H
          clear H
          go_wp2
          go_roundg k1
          case measure => have := HK1.out; omega
          case rel => exact ⟨(wrap64 (x4_1 + 1)), (by first | rfl | (simp; done) | (simp [*]; done)), H', ⟨by have := HK1.out; omega⟩, ⟨by (with_reducible repeat (first | apply Kd.R_alloc | apply Kd.R_drewN | apply Kd.R_drew)); exact HO_3.out⟩, ⟨by repeat (first | (with_reducible first | exact HB.out | apply pA | apply pN | apply pD) | exact HB.out)⟩⟩
      · rw [if_neg c4] at H
        have c4b0 : decide (x4_1 < 10) = false := decide_eq_false c4
        clear c4
        obtain rfl := Option.some.inj H
        go_wp2
        go_ret
        exact ⟨by first | rfl | (simp [errW_none, errW_some] <;> rfl) | (simp [*, errW_none, errW_some] <;> rfl), by repeat (first | (with_reducible first | exact HB.out | apply pA | apply pN | apply pD) | exact HB.out)⟩

end Go.Proofs.YtdjicabmofbidaaDoor.Q

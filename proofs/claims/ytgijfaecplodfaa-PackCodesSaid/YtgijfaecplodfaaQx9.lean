-- written by this session's own program (wip/tools/myprint.py), over the kit's print
import Derived.Test.YtgijfaecplodfaaQx0
import Derived.Test.YtgijfaecplodfaaQx2
import Derived.Test.YtgijfaecplodfaaQx4
namespace Go.Proofs.Ytgijfaecplodfaa.Q
open Go.RowKit Go.Proofs.YtgijfaecplodfaaW.PrintWords Go.Proofs.YtgijfaecplodfaaW.PrintLast Go.Proofs.YtgijfaecplodfaaW.PrintMore
open Go.Proofs.YtgijfaecplodfaaV
attribute [local go_sem] max2_int min2_int max_two min_two max_three min_three max_four min_four   -- for this text's walks alone
set_option linter.unusedVariables false
set_option linter.unusedSimpArgs false

/-! ### portreevelaw09_PackCodes: function 6 -/
def portreevelaw09_PackCodes.j0 : Nat → Int → Bool → Bool → Bool → Option (Bool)
  | 0, _, _, _, _ => none
  | k + 1, x0, x5, x6, x36 => if x36 = true then (some false) else (if x0 = 49185 then (if x5 = true then ((pack_Known.f x0 1).bind fun t310 => (some t310)) else (some false)) else (if x0 = 49699 then (if x5 = true then ((pack_Known.f x0 1).bind fun t311 => (some t311)) else (some false)) else (if x5 = true then (if x0 = 32801 then ((pack_Known.f x0 1).bind fun t312 => (some t312)) else (if x6 = true then (some false) else (some true))) else (some false))))
def portreevelaw09_PackCodes.f (k : Nat) (a0 : Int) (a1 : Int) : Option (Bool) := (portreevelaw09_shown.f k).bind fun t300 => ((pack_Known.f a0 a1).bind fun t301 => ((pack_Known.f a0 0).bind fun t302 => (if t302 = true then (portreevelaw09_PackCodes.j0 k a0 t300 t301 true) else (if a1 > 1 then (if t301 = true then ((pack_Known.f a0 ((a1 - 1) % 256)).bind fun t303 => (if t303 = true then ((pack_Known.f 32801 a1).bind fun t304 => (if t304 = true then ((pack_Known.f 49185 a1).bind fun t305 => (portreevelaw09_PackCodes.j0 k a0 t300 t301 (!t305))) else (portreevelaw09_PackCodes.j0 k a0 t300 t301 false))) else (portreevelaw09_PackCodes.j0 k a0 t300 t301 true))) else ((pack_Known.f 32801 a1).bind fun t306 => (if t306 = true then ((pack_Known.f 49185 a1).bind fun t307 => (portreevelaw09_PackCodes.j0 k a0 t300 t301 (!t307))) else (portreevelaw09_PackCodes.j0 k a0 t300 t301 false)))) else ((pack_Known.f 32801 a1).bind fun t308 => (if t308 = true then ((pack_Known.f 49185 a1).bind fun t309 => (portreevelaw09_PackCodes.j0 k a0 t300 t301 (!t309))) else (portreevelaw09_PackCodes.j0 k a0 t300 t301 false)))))))
theorem portreevelaw09_PackCodes.mono_l : ∀ k, (∀ y0 y1 y2 y3, LeO (portreevelaw09_PackCodes.j0 k y0 y1 y2 y3) (portreevelaw09_PackCodes.j0 (k + 1) y0 y1 y2 y3))
  | 0 => fun _ _ _ _ r h => by simp [portreevelaw09_PackCodes.j0] at h
  | k + 1 => by
    have ih0 := portreevelaw09_PackCodes.mono_l k
    · intro y0 y1 y2 y3
      unfold portreevelaw09_PackCodes.j0
      repeat' first
      | (with_reducible exact ih0 _ _ _ _)
      | (with_reducible exact portreevelaw09_shown.mono _)
      | (with_reducible exact LeO.refl _)
      | (with_reducible exact LeO.none _)
      | (with_reducible refine LeO.ite ?_ ?_)
      | (with_reducible refine LeO.bind ?_ (fun _ => ?_))
      | exact ih0 _ _ _ _
      | exact portreevelaw09_shown.mono _
      | exact LeO.none _
      | refine LeO.ite ?_ ?_
      | refine LeO.bind ?_ (fun _ => ?_)
theorem portreevelaw09_PackCodes.mono : ∀ a0 a1 k, LeO (portreevelaw09_PackCodes.f k a0 a1) (portreevelaw09_PackCodes.f (k + 1) a0 a1) := by
  intro a0 a1 k
  have ih0 := portreevelaw09_PackCodes.mono_l k
  unfold portreevelaw09_PackCodes.f
  repeat' first
      | (with_reducible exact ih0 _ _ _ _)
      | (with_reducible exact portreevelaw09_shown.mono _)
      | (with_reducible exact LeO.refl _)
      | (with_reducible exact LeO.none _)
      | (with_reducible refine LeO.ite ?_ ?_)
      | (with_reducible refine LeO.bind ?_ (fun _ => ?_))
      | exact ih0 _ _ _ _
      | exact portreevelaw09_shown.mono _
      | exact LeO.none _
      | refine LeO.ite ?_ ?_
      | refine LeO.bind ?_ (fun _ => ?_)
set_option maxHeartbeats 8000000 in
set_option maxRecDepth 100000 in
theorem portreevelaw09_PackCodes.calls (k : Nat) (a0 : Int) (a1 : Int) (r : Bool) (w : World) (hlaw_ : Aside0 (r = true)) (h : portreevelaw09_PackCodes.f k a0 a1 = some r) :
    Calls Try.prog 6 #[.int .u16 a0, .int .u8 a1] w fun e w' => e = .returned (.bool r) ∧ Below w.heap.size w w' := by
  have HB := Aside0.mk (Below.refl w.heap.size w)
  have H : ((portreevelaw09_shown.f k).bind fun t300 => ((pack_Known.f a0 a1).bind fun t301 => ((pack_Known.f a0 0).bind fun t302 => (if t302 = true then (portreevelaw09_PackCodes.j0 k a0 t300 t301 true) else (if a1 > 1 then (if t301 = true then ((pack_Known.f a0 ((a1 - 1) % 256)).bind fun t303 => (if t303 = true then ((pack_Known.f 32801 a1).bind fun t304 => (if t304 = true then ((pack_Known.f 49185 a1).bind fun t305 => (portreevelaw09_PackCodes.j0 k a0 t300 t301 (!t305))) else (portreevelaw09_PackCodes.j0 k a0 t300 t301 false))) else (portreevelaw09_PackCodes.j0 k a0 t300 t301 true))) else ((pack_Known.f 32801 a1).bind fun t306 => (if t306 = true then ((pack_Known.f 49185 a1).bind fun t307 => (portreevelaw09_PackCodes.j0 k a0 t300 t301 (!t307))) else (portreevelaw09_PackCodes.j0 k a0 t300 t301 false)))) else ((pack_Known.f 32801 a1).bind fun t308 => (if t308 = true then ((pack_Known.f 49185 a1).bind fun t309 => (portreevelaw09_PackCodes.j0 k a0 t300 t301 (!t309))) else (portreevelaw09_PackCodes.j0 k a0 t300 t301 false)))))))) = some r := h
  clear h
  replace H := Option.bind_eq_some_iff.mp H
  obtain ⟨t300, A30, H⟩ := H
  replace H : ((pack_Known.f a0 a1).bind fun t301 => ((pack_Known.f a0 0).bind fun t302 => (if t302 = true then (portreevelaw09_PackCodes.j0 k a0 t300 t301 true) else (if a1 > 1 then (if t301 = true then ((pack_Known.f a0 ((a1 - 1) % 256)).bind fun t303 => (if t303 = true then ((pack_Known.f 32801 a1).bind fun t304 => (if t304 = true then ((pack_Known.f 49185 a1).bind fun t305 => (portreevelaw09_PackCodes.j0 k a0 t300 t301 (!t305))) else (portreevelaw09_PackCodes.j0 k a0 t300 t301 false))) else (portreevelaw09_PackCodes.j0 k a0 t300 t301 true))) else ((pack_Known.f 32801 a1).bind fun t306 => (if t306 = true then ((pack_Known.f 49185 a1).bind fun t307 => (portreevelaw09_PackCodes.j0 k a0 t300 t301 (!t307))) else (portreevelaw09_PackCodes.j0 k a0 t300 t301 false)))) else ((pack_Known.f 32801 a1).bind fun t308 => (if t308 = true then ((pack_Known.f 49185 a1).bind fun t309 => (portreevelaw09_PackCodes.j0 k a0 t300 t301 (!t309))) else (portreevelaw09_PackCodes.j0 k a0 t300 t301 false))))))) = some r := H
  have A3 := Aside0.mk A30
  clear A30
  replace H := Option.bind_eq_some_iff.mp H
  obtain ⟨t301, A40, H⟩ := H
  replace H : ((pack_Known.f a0 0).bind fun t302 => (if t302 = true then (portreevelaw09_PackCodes.j0 k a0 t300 t301 true) else (if a1 > 1 then (if t301 = true then ((pack_Known.f a0 ((a1 - 1) % 256)).bind fun t303 => (if t303 = true then ((pack_Known.f 32801 a1).bind fun t304 => (if t304 = true then ((pack_Known.f 49185 a1).bind fun t305 => (portreevelaw09_PackCodes.j0 k a0 t300 t301 (!t305))) else (portreevelaw09_PackCodes.j0 k a0 t300 t301 false))) else (portreevelaw09_PackCodes.j0 k a0 t300 t301 true))) else ((pack_Known.f 32801 a1).bind fun t306 => (if t306 = true then ((pack_Known.f 49185 a1).bind fun t307 => (portreevelaw09_PackCodes.j0 k a0 t300 t301 (!t307))) else (portreevelaw09_PackCodes.j0 k a0 t300 t301 false)))) else ((pack_Known.f 32801 a1).bind fun t308 => (if t308 = true then ((pack_Known.f 49185 a1).bind fun t309 => (portreevelaw09_PackCodes.j0 k a0 t300 t301 (!t309))) else (portreevelaw09_PackCodes.j0 k a0 t300 t301 false)))))) = some r := H
  have A4 := Aside0.mk A40
  clear A40
  have HC5 := Aside0.mk H
  clear H
  go_enter Try.func6, Try.ntmps6
  go_upto_region 3 with (first | ((with_reducible refine gate_callee (f := 8) rfl ?_); refine goesL_ (some 8) rfl rfl Try.func8 (by kernel_rfl) rfl #[] rfl (by (try simp only [List.map_toArray, List.map_cons, List.map_nil]); first | done | rfl | (simp only [List.length_drop, List.length_take]; rfl)) ?_; (with_reducible refine (portreevelaw09_shown.calls k  t300 _ A3.out).mono ?_); rintro e w6 ⟨rfl, hb⟩; refine ⟨_, rfl, ?_⟩; have n0_ := Aside0.mk (below_step (by repeat (first | (with_reducible first | exact HB.out | apply pA | apply pN | apply pD) | exact HB.out)) hb); clear HB; have HB := n0_; clear n0_; (try clear hb); (try clear hb2); (try clear hk); (try clear hi)) | ((with_reducible refine gate_callee (f := 16) rfl ?_); refine goesL_ (some 11) rfl rfl Try.func16 (by kernel_rfl) rfl #[.int .u16 a0, .int .u8 a1] rfl (by (try simp only [List.map_toArray, List.map_cons, List.map_nil]); first | done | rfl | (simp only [List.length_drop, List.length_take]; rfl)) ?_; (with_reducible refine (pack_Known.calls a0 a1 t301 _ A4.out).mono ?_); rintro e w7 ⟨rfl, hb⟩; refine ⟨_, rfl, ?_⟩; have n0_ := Aside0.mk (below_step (by repeat (first | (with_reducible first | exact HB.out | apply pA | apply pN | apply pD) | exact HB.out)) hb); clear HB; have HB := n0_; clear n0_; (try clear hb); (try clear hb2); (try clear hk); (try clear hi)))
  (try simp only [Act.put, List.setIfInBounds_toArray, List.set_cons_zero, List.set_cons_succ])
  go_cut [36] (fun v36 wc => ∃ (kq : Nat) (x36_4 : Bool), v36 = .bool x36_4 ∧ Aside0 (portreevelaw09_PackCodes.j0 kq a0 t300 t301 x36_4 = some r) ∧ Aside0 (kq ≤ k) ∧ Aside0 (Below w.heap.size w wc))
  case first =>
    have H := HC5.out
    clear HC5
    replace H := Option.bind_eq_some_iff.mp H
    obtain ⟨t302, A80, H⟩ := H
    replace H : (if t302 = true then (portreevelaw09_PackCodes.j0 k a0 t300 t301 true) else (if a1 > 1 then (if t301 = true then ((pack_Known.f a0 ((a1 - 1) % 256)).bind fun t303 => (if t303 = true then ((pack_Known.f 32801 a1).bind fun t304 => (if t304 = true then ((pack_Known.f 49185 a1).bind fun t305 => (portreevelaw09_PackCodes.j0 k a0 t300 t301 (!t305))) else (portreevelaw09_PackCodes.j0 k a0 t300 t301 false))) else (portreevelaw09_PackCodes.j0 k a0 t300 t301 true))) else ((pack_Known.f 32801 a1).bind fun t306 => (if t306 = true then ((pack_Known.f 49185 a1).bind fun t307 => (portreevelaw09_PackCodes.j0 k a0 t300 t301 (!t307))) else (portreevelaw09_PackCodes.j0 k a0 t300 t301 false)))) else ((pack_Known.f 32801 a1).bind fun t308 => (if t308 = true then ((pack_Known.f 49185 a1).bind fun t309 => (portreevelaw09_PackCodes.j0 k a0 t300 t301 (!t309))) else (portreevelaw09_PackCodes.j0 k a0 t300 t301 false))))) = some r := H
    have A8 := Aside0.mk A80
    clear A80
    by_cases c9 : t302 = true
    · subst c9
      have H1 : (portreevelaw09_PackCodes.j0 k a0 t300 t301 true) = some r := by rw [if_pos rfl] at H; exact H
      clear H
      have H := H1
      clear H1
      have H' := Aside0.mk H
      clear H
      go_wp2_with (first | ((with_reducible refine gate_callee (f := 16) rfl ?_); refine goesL_ (some 13) rfl rfl Try.func16 (by kernel_rfl) rfl #[.int .u16 a0, .int .u8 0] rfl (by (try simp only [List.map_toArray, List.map_cons, List.map_nil]); first | done | rfl | (simp only [List.length_drop, List.length_take]; rfl)) ?_; (with_reducible refine (pack_Known.calls a0 0 true _ A8.out).mono ?_); rintro e w10 ⟨rfl, hb⟩; refine ⟨_, rfl, ?_⟩; have n0_ := Aside0.mk (below_step (by repeat (first | (with_reducible first | exact HB.out | apply pA | apply pN | apply pD) | exact HB.out)) hb); clear HB; have HB := n0_; clear n0_; (try clear hb); (try clear hb2); (try clear hk); (try clear hi)))
      go_meet
      case rel => exact ⟨_, (true), (by first | rfl | (simp; done) | (simp [*]; done)), H', ⟨by first | omega | exact Nat.le_refl _⟩, ⟨by repeat (first | (with_reducible first | exact HB.out | apply pA | apply pN | apply pD) | exact HB.out)⟩⟩
    · replace c9 := Bool.eq_false_iff.mpr c9
      subst c9
      have H1 : (if a1 > 1 then (if t301 = true then ((pack_Known.f a0 ((a1 - 1) % 256)).bind fun t303 => (if t303 = true then ((pack_Known.f 32801 a1).bind fun t304 => (if t304 = true then ((pack_Known.f 49185 a1).bind fun t305 => (portreevelaw09_PackCodes.j0 k a0 t300 t301 (!t305))) else (portreevelaw09_PackCodes.j0 k a0 t300 t301 false))) else (portreevelaw09_PackCodes.j0 k a0 t300 t301 true))) else ((pack_Known.f 32801 a1).bind fun t306 => (if t306 = true then ((pack_Known.f 49185 a1).bind fun t307 => (portreevelaw09_PackCodes.j0 k a0 t300 t301 (!t307))) else (portreevelaw09_PackCodes.j0 k a0 t300 t301 false)))) else ((pack_Known.f 32801 a1).bind fun t308 => (if t308 = true then ((pack_Known.f 49185 a1).bind fun t309 => (portreevelaw09_PackCodes.j0 k a0 t300 t301 (!t309))) else (portreevelaw09_PackCodes.j0 k a0 t300 t301 false)))) = some r := by rw [if_neg (show ¬ (false = true) by decide)] at H; exact H
      clear H
      have H := H1
      clear H1
      by_cases c11 : a1 > 1
      · rw [if_pos c11] at H
        have c11b0 : decide (1 < a1) = true := decide_eq_true c11
        clear c11
        (first | rw [c11b0] | (simp only [i64_w, i32_w]; rw [c11b0]) | skip)
        by_cases c12 : t301 = true
        · subst c12
          have H1 : ((pack_Known.f a0 ((a1 - 1) % 256)).bind fun t303 => (if t303 = true then ((pack_Known.f 32801 a1).bind fun t304 => (if t304 = true then ((pack_Known.f 49185 a1).bind fun t305 => (portreevelaw09_PackCodes.j0 k a0 t300 true (!t305))) else (portreevelaw09_PackCodes.j0 k a0 t300 true false))) else (portreevelaw09_PackCodes.j0 k a0 t300 true true))) = some r := by rw [if_pos rfl] at H; exact H
          clear H
          have H := H1
          clear H1
          replace H := Option.bind_eq_some_iff.mp H
          obtain ⟨t303, A130, H⟩ := H
          replace H : (if t303 = true then ((pack_Known.f 32801 a1).bind fun t304 => (if t304 = true then ((pack_Known.f 49185 a1).bind fun t305 => (portreevelaw09_PackCodes.j0 k a0 t300 true (!t305))) else (portreevelaw09_PackCodes.j0 k a0 t300 true false))) else (portreevelaw09_PackCodes.j0 k a0 t300 true true)) = some r := H
          have A13 := Aside0.mk A130
          clear A130
          by_cases c14 : t303 = true
          · subst c14
            have H1 : ((pack_Known.f 32801 a1).bind fun t304 => (if t304 = true then ((pack_Known.f 49185 a1).bind fun t305 => (portreevelaw09_PackCodes.j0 k a0 t300 true (!t305))) else (portreevelaw09_PackCodes.j0 k a0 t300 true false))) = some r := by rw [if_pos rfl] at H; exact H
            clear H
            have H := H1
            clear H1
            replace H := Option.bind_eq_some_iff.mp H
            obtain ⟨t304, A150, H⟩ := H
            replace H : (if t304 = true then ((pack_Known.f 49185 a1).bind fun t305 => (portreevelaw09_PackCodes.j0 k a0 t300 true (!t305))) else (portreevelaw09_PackCodes.j0 k a0 t300 true false)) = some r := H
            have A15 := Aside0.mk A150
            clear A150
            by_cases c16 : t304 = true
            · subst c16
              have H1 : ((pack_Known.f 49185 a1).bind fun t305 => (portreevelaw09_PackCodes.j0 k a0 t300 true (!t305))) = some r := by rw [if_pos rfl] at H; exact H
              clear H
              have H := H1
              clear H1
              replace H := Option.bind_eq_some_iff.mp H
              obtain ⟨t305, A170, H⟩ := H
              replace H : (portreevelaw09_PackCodes.j0 k a0 t300 true (!t305)) = some r := H
              have A17 := Aside0.mk A170
              clear A170
              have H' := Aside0.mk H
              clear H
              go_wp2_with (first | ((with_reducible refine gate_callee (f := 16) rfl ?_); refine goesL_ (some 13) rfl rfl Try.func16 (by kernel_rfl) rfl #[.int .u16 a0, .int .u8 0] rfl (by (try simp only [List.map_toArray, List.map_cons, List.map_nil]); first | done | rfl | (simp only [List.length_drop, List.length_take]; rfl)) ?_; (with_reducible refine (pack_Known.calls a0 0 false _ A8.out).mono ?_); rintro e w18 ⟨rfl, hb⟩; refine ⟨_, rfl, ?_⟩; have n0_ := Aside0.mk (below_step (by repeat (first | (with_reducible first | exact HB.out | apply pA | apply pN | apply pD) | exact HB.out)) hb); clear HB; have HB := n0_; clear n0_; (try clear hb); (try clear hb2); (try clear hk); (try clear hi)) | (go_at_call 16; (with_reducible refine (pack_Known.calls a0 ((a1 - 1) % 256) true _ A13.out).mono ?_); rintro e w19 ⟨rfl, hb⟩; have n0_ := Aside0.mk (below_step (by repeat (first | (with_reducible first | exact HB.out | apply pA | apply pN | apply pD) | exact HB.out)) hb); clear HB; have HB := n0_; clear n0_; (try clear hb); (try clear hb2); (try clear hk); (try clear hi)) | (go_at_call 16; (with_reducible refine (pack_Known.calls 32801 a1 true _ A15.out).mono ?_); rintro e w20 ⟨rfl, hb⟩; have n0_ := Aside0.mk (below_step (by repeat (first | (with_reducible first | exact HB.out | apply pA | apply pN | apply pD) | exact HB.out)) hb); clear HB; have HB := n0_; clear n0_; (try clear hb); (try clear hb2); (try clear hk); (try clear hi)) | (go_at_call 16; (with_reducible refine (pack_Known.calls 49185 a1 t305 _ A17.out).mono ?_); rintro e w21 ⟨rfl, hb⟩; have n0_ := Aside0.mk (below_step (by repeat (first | (with_reducible first | exact HB.out | apply pA | apply pN | apply pD) | exact HB.out)) hb); clear HB; have HB := n0_; clear n0_; (try clear hb); (try clear hb2); (try clear hk); (try clear hi)))
              go_meet
              case rel => exact ⟨_, (!t305), (by first | rfl | (simp; done) | (simp [*]; done)), H', ⟨by first | omega | exact Nat.le_refl _⟩, ⟨by repeat (first | (with_reducible first | exact HB.out | apply pA | apply pN | apply pD) | exact HB.out)⟩⟩
            · replace c16 := Bool.eq_false_iff.mpr c16
              subst c16
              have H1 : (portreevelaw09_PackCodes.j0 k a0 t300 true false) = some r := by rw [if_neg (show ¬ (false = true) by decide)] at H; exact H
              clear H
              have H := H1
              clear H1
              have H' := Aside0.mk H
              clear H
              go_wp2_with (first | ((with_reducible refine gate_callee (f := 16) rfl ?_); refine goesL_ (some 13) rfl rfl Try.func16 (by kernel_rfl) rfl #[.int .u16 a0, .int .u8 0] rfl (by (try simp only [List.map_toArray, List.map_cons, List.map_nil]); first | done | rfl | (simp only [List.length_drop, List.length_take]; rfl)) ?_; (with_reducible refine (pack_Known.calls a0 0 false _ A8.out).mono ?_); rintro e w22 ⟨rfl, hb⟩; refine ⟨_, rfl, ?_⟩; have n0_ := Aside0.mk (below_step (by repeat (first | (with_reducible first | exact HB.out | apply pA | apply pN | apply pD) | exact HB.out)) hb); clear HB; have HB := n0_; clear n0_; (try clear hb); (try clear hb2); (try clear hk); (try clear hi)) | (go_at_call 16; (with_reducible refine (pack_Known.calls a0 ((a1 - 1) % 256) true _ A13.out).mono ?_); rintro e w23 ⟨rfl, hb⟩; have n0_ := Aside0.mk (below_step (by repeat (first | (with_reducible first | exact HB.out | apply pA | apply pN | apply pD) | exact HB.out)) hb); clear HB; have HB := n0_; clear n0_; (try clear hb); (try clear hb2); (try clear hk); (try clear hi)) | (go_at_call 16; (with_reducible refine (pack_Known.calls 32801 a1 false _ A15.out).mono ?_); rintro e w24 ⟨rfl, hb⟩; have n0_ := Aside0.mk (below_step (by repeat (first | (with_reducible first | exact HB.out | apply pA | apply pN | apply pD) | exact HB.out)) hb); clear HB; have HB := n0_; clear n0_; (try clear hb); (try clear hb2); (try clear hk); (try clear hi)))
              go_meet
              case rel => exact ⟨_, (false), (by first | rfl | (simp; done) | (simp [*]; done)), H', ⟨by first | omega | exact Nat.le_refl _⟩, ⟨by repeat (first | (with_reducible first | exact HB.out | apply pA | apply pN | apply pD) | exact HB.out)⟩⟩
          · replace c14 := Bool.eq_false_iff.mpr c14
            subst c14
            have H1 : (portreevelaw09_PackCodes.j0 k a0 t300 true true) = some r := by rw [if_neg (show ¬ (false = true) by decide)] at H; exact H
            clear H
            have H := H1
            clear H1
            have H' := Aside0.mk H
            clear H
            go_wp2_with (first | ((with_reducible refine gate_callee (f := 16) rfl ?_); refine goesL_ (some 13) rfl rfl Try.func16 (by kernel_rfl) rfl #[.int .u16 a0, .int .u8 0] rfl (by (try simp only [List.map_toArray, List.map_cons, List.map_nil]); first | done | rfl | (simp only [List.length_drop, List.length_take]; rfl)) ?_; (with_reducible refine (pack_Known.calls a0 0 false _ A8.out).mono ?_); rintro e w25 ⟨rfl, hb⟩; refine ⟨_, rfl, ?_⟩; have n0_ := Aside0.mk (below_step (by repeat (first | (with_reducible first | exact HB.out | apply pA | apply pN | apply pD) | exact HB.out)) hb); clear HB; have HB := n0_; clear n0_; (try clear hb); (try clear hb2); (try clear hk); (try clear hi)) | (go_at_call 16; (with_reducible refine (pack_Known.calls a0 ((a1 - 1) % 256) false _ A13.out).mono ?_); rintro e w26 ⟨rfl, hb⟩; have n0_ := Aside0.mk (below_step (by repeat (first | (with_reducible first | exact HB.out | apply pA | apply pN | apply pD) | exact HB.out)) hb); clear HB; have HB := n0_; clear n0_; (try clear hb); (try clear hb2); (try clear hk); (try clear hi)))
            go_meet
            case rel => exact ⟨_, (true), (by first | rfl | (simp; done) | (simp [*]; done)), H', ⟨by first | omega | exact Nat.le_refl _⟩, ⟨by repeat (first | (with_reducible first | exact HB.out | apply pA | apply pN | apply pD) | exact HB.out)⟩⟩
        · replace c12 := Bool.eq_false_iff.mpr c12
          subst c12
          have H1 : ((pack_Known.f 32801 a1).bind fun t306 => (if t306 = true then ((pack_Known.f 49185 a1).bind fun t307 => (portreevelaw09_PackCodes.j0 k a0 t300 false (!t307))) else (portreevelaw09_PackCodes.j0 k a0 t300 false false))) = some r := by rw [if_neg (show ¬ (false = true) by decide)] at H; exact H
          clear H
          have H := H1
          clear H1
          replace H := Option.bind_eq_some_iff.mp H
          obtain ⟨t306, A270, H⟩ := H
          replace H : (if t306 = true then ((pack_Known.f 49185 a1).bind fun t307 => (portreevelaw09_PackCodes.j0 k a0 t300 false (!t307))) else (portreevelaw09_PackCodes.j0 k a0 t300 false false)) = some r := H
          have A27 := Aside0.mk A270
          clear A270
          by_cases c28 : t306 = true
          · subst c28
            have H1 : ((pack_Known.f 49185 a1).bind fun t307 => (portreevelaw09_PackCodes.j0 k a0 t300 false (!t307))) = some r := by rw [if_pos rfl] at H; exact H
            clear H
            have H := H1
            clear H1
            replace H := Option.bind_eq_some_iff.mp H
            obtain ⟨t307, A290, H⟩ := H
            replace H : (portreevelaw09_PackCodes.j0 k a0 t300 false (!t307)) = some r := H
            have A29 := Aside0.mk A290
            clear A290
            have H' := Aside0.mk H
            clear H
            go_wp2_with (first | ((with_reducible refine gate_callee (f := 16) rfl ?_); refine goesL_ (some 13) rfl rfl Try.func16 (by kernel_rfl) rfl #[.int .u16 a0, .int .u8 0] rfl (by (try simp only [List.map_toArray, List.map_cons, List.map_nil]); first | done | rfl | (simp only [List.length_drop, List.length_take]; rfl)) ?_; (with_reducible refine (pack_Known.calls a0 0 false _ A8.out).mono ?_); rintro e w30 ⟨rfl, hb⟩; refine ⟨_, rfl, ?_⟩; have n0_ := Aside0.mk (below_step (by repeat (first | (with_reducible first | exact HB.out | apply pA | apply pN | apply pD) | exact HB.out)) hb); clear HB; have HB := n0_; clear n0_; (try clear hb); (try clear hb2); (try clear hk); (try clear hi)) | (go_at_call 16; (with_reducible refine (pack_Known.calls 32801 a1 true _ A27.out).mono ?_); rintro e w31 ⟨rfl, hb⟩; have n0_ := Aside0.mk (below_step (by repeat (first | (with_reducible first | exact HB.out | apply pA | apply pN | apply pD) | exact HB.out)) hb); clear HB; have HB := n0_; clear n0_; (try clear hb); (try clear hb2); (try clear hk); (try clear hi)) | (go_at_call 16; (with_reducible refine (pack_Known.calls 49185 a1 t307 _ A29.out).mono ?_); rintro e w32 ⟨rfl, hb⟩; have n0_ := Aside0.mk (below_step (by repeat (first | (with_reducible first | exact HB.out | apply pA | apply pN | apply pD) | exact HB.out)) hb); clear HB; have HB := n0_; clear n0_; (try clear hb); (try clear hb2); (try clear hk); (try clear hi)))
            go_meet
            case rel => exact ⟨_, (!t307), (by first | rfl | (simp; done) | (simp [*]; done)), H', ⟨by first | omega | exact Nat.le_refl _⟩, ⟨by repeat (first | (with_reducible first | exact HB.out | apply pA | apply pN | apply pD) | exact HB.out)⟩⟩
          · replace c28 := Bool.eq_false_iff.mpr c28
            subst c28
            have H1 : (portreevelaw09_PackCodes.j0 k a0 t300 false false) = some r := by rw [if_neg (show ¬ (false = true) by decide)] at H; exact H
            clear H
            have H := H1
            clear H1
            have H' := Aside0.mk H
            clear H
            go_wp2_with (first | ((with_reducible refine gate_callee (f := 16) rfl ?_); refine goesL_ (some 13) rfl rfl Try.func16 (by kernel_rfl) rfl #[.int .u16 a0, .int .u8 0] rfl (by (try simp only [List.map_toArray, List.map_cons, List.map_nil]); first | done | rfl | (simp only [List.length_drop, List.length_take]; rfl)) ?_; (with_reducible refine (pack_Known.calls a0 0 false _ A8.out).mono ?_); rintro e w33 ⟨rfl, hb⟩; refine ⟨_, rfl, ?_⟩; have n0_ := Aside0.mk (below_step (by repeat (first | (with_reducible first | exact HB.out | apply pA | apply pN | apply pD) | exact HB.out)) hb); clear HB; have HB := n0_; clear n0_; (try clear hb); (try clear hb2); (try clear hk); (try clear hi)) | (go_at_call 16; (with_reducible refine (pack_Known.calls 32801 a1 false _ A27.out).mono ?_); rintro e w34 ⟨rfl, hb⟩; have n0_ := Aside0.mk (below_step (by repeat (first | (with_reducible first | exact HB.out | apply pA | apply pN | apply pD) | exact HB.out)) hb); clear HB; have HB := n0_; clear n0_; (try clear hb); (try clear hb2); (try clear hk); (try clear hi)))
            go_meet
            case rel => exact ⟨_, (false), (by first | rfl | (simp; done) | (simp [*]; done)), H', ⟨by first | omega | exact Nat.le_refl _⟩, ⟨by repeat (first | (with_reducible first | exact HB.out | apply pA | apply pN | apply pD) | exact HB.out)⟩⟩
      · rw [if_neg c11] at H
        have c11b0 : decide (1 < a1) = false := decide_eq_false c11
        clear c11
        (first | rw [c11b0] | (simp only [i64_w, i32_w]; rw [c11b0]) | skip)
        replace H := Option.bind_eq_some_iff.mp H
        obtain ⟨t308, A350, H⟩ := H
        replace H : (if t308 = true then ((pack_Known.f 49185 a1).bind fun t309 => (portreevelaw09_PackCodes.j0 k a0 t300 t301 (!t309))) else (portreevelaw09_PackCodes.j0 k a0 t300 t301 false)) = some r := H
        have A35 := Aside0.mk A350
        clear A350
        by_cases c36 : t308 = true
        · subst c36
          have H1 : ((pack_Known.f 49185 a1).bind fun t309 => (portreevelaw09_PackCodes.j0 k a0 t300 t301 (!t309))) = some r := by rw [if_pos rfl] at H; exact H
          clear H
          have H := H1
          clear H1
          replace H := Option.bind_eq_some_iff.mp H
          obtain ⟨t309, A370, H⟩ := H
          replace H : (portreevelaw09_PackCodes.j0 k a0 t300 t301 (!t309)) = some r := H
          have A37 := Aside0.mk A370
          clear A370
          have H' := Aside0.mk H
          clear H
          go_wp2_with (first | ((with_reducible refine gate_callee (f := 16) rfl ?_); refine goesL_ (some 13) rfl rfl Try.func16 (by kernel_rfl) rfl #[.int .u16 a0, .int .u8 0] rfl (by (try simp only [List.map_toArray, List.map_cons, List.map_nil]); first | done | rfl | (simp only [List.length_drop, List.length_take]; rfl)) ?_; (with_reducible refine (pack_Known.calls a0 0 false _ A8.out).mono ?_); rintro e w38 ⟨rfl, hb⟩; refine ⟨_, rfl, ?_⟩; have n0_ := Aside0.mk (below_step (by repeat (first | (with_reducible first | exact HB.out | apply pA | apply pN | apply pD) | exact HB.out)) hb); clear HB; have HB := n0_; clear n0_; (try clear hb); (try clear hb2); (try clear hk); (try clear hi)) | (go_at_call 16; (with_reducible refine (pack_Known.calls 32801 a1 true _ A35.out).mono ?_); rintro e w39 ⟨rfl, hb⟩; have n0_ := Aside0.mk (below_step (by repeat (first | (with_reducible first | exact HB.out | apply pA | apply pN | apply pD) | exact HB.out)) hb); clear HB; have HB := n0_; clear n0_; (try clear hb); (try clear hb2); (try clear hk); (try clear hi)) | (go_at_call 16; (with_reducible refine (pack_Known.calls 49185 a1 t309 _ A37.out).mono ?_); rintro e w40 ⟨rfl, hb⟩; have n0_ := Aside0.mk (below_step (by repeat (first | (with_reducible first | exact HB.out | apply pA | apply pN | apply pD) | exact HB.out)) hb); clear HB; have HB := n0_; clear n0_; (try clear hb); (try clear hb2); (try clear hk); (try clear hi)))
          go_meet
          case rel => exact ⟨_, (!t309), (by first | rfl | (simp; done) | (simp [*]; done)), H', ⟨by first | omega | exact Nat.le_refl _⟩, ⟨by repeat (first | (with_reducible first | exact HB.out | apply pA | apply pN | apply pD) | exact HB.out)⟩⟩
        · replace c36 := Bool.eq_false_iff.mpr c36
          subst c36
          have H1 : (portreevelaw09_PackCodes.j0 k a0 t300 t301 false) = some r := by rw [if_neg (show ¬ (false = true) by decide)] at H; exact H
          clear H
          have H := H1
          clear H1
          have H' := Aside0.mk H
          clear H
          go_wp2_with (first | ((with_reducible refine gate_callee (f := 16) rfl ?_); refine goesL_ (some 13) rfl rfl Try.func16 (by kernel_rfl) rfl #[.int .u16 a0, .int .u8 0] rfl (by (try simp only [List.map_toArray, List.map_cons, List.map_nil]); first | done | rfl | (simp only [List.length_drop, List.length_take]; rfl)) ?_; (with_reducible refine (pack_Known.calls a0 0 false _ A8.out).mono ?_); rintro e w41 ⟨rfl, hb⟩; refine ⟨_, rfl, ?_⟩; have n0_ := Aside0.mk (below_step (by repeat (first | (with_reducible first | exact HB.out | apply pA | apply pN | apply pD) | exact HB.out)) hb); clear HB; have HB := n0_; clear n0_; (try clear hb); (try clear hb2); (try clear hk); (try clear hi)) | (go_at_call 16; (with_reducible refine (pack_Known.calls 32801 a1 false _ A35.out).mono ?_); rintro e w42 ⟨rfl, hb⟩; have n0_ := Aside0.mk (below_step (by repeat (first | (with_reducible first | exact HB.out | apply pA | apply pN | apply pD) | exact HB.out)) hb); clear HB; have HB := n0_; clear n0_; (try clear hb); (try clear hb2); (try clear hk); (try clear hi)))
          go_meet
          case rel => exact ⟨_, (false), (by first | rfl | (simp; done) | (simp [*]; done)), H', ⟨by first | omega | exact Nat.le_refl _⟩, ⟨by repeat (first | (with_reducible first | exact HB.out | apply pA | apply pN | apply pD) | exact HB.out)⟩⟩
  case rest =>
    clear HC5
    try clear c1
    try clear c2
    try clear p2
    try clear c3
    try clear c6
    try clear c8
    try clear c9
    try clear c11
    try clear c11b0
    try clear c12
    try clear c14
    try clear c16
    try clear c28
    try clear c36
    obtain ⟨kq, x36_4, rfl, HA, HJ4, HB⟩ := hcut
    cases kq with
    | zero => exact absurd HA.out (by simp [portreevelaw09_PackCodes.j0])
    | succ kj4 =>
      have H := HA.out
      clear HA
      simp only [portreevelaw09_PackCodes.j0] at H
      by_cases c43 : x36_4 = true
      · subst c43
        have H1 : (some false) = some r := by rw [if_pos rfl] at H; exact H
        clear H
        have H := H1
        clear H1
        exact absurd ((Option.some.inj H).trans hlaw_.out) (by decide)
      · replace c43 := Bool.eq_false_iff.mpr c43
        subst c43
        have H1 : (if a0 = 49185 then (if t300 = true then ((pack_Known.f a0 1).bind fun t310 => (some t310)) else (some false)) else (if a0 = 49699 then (if t300 = true then ((pack_Known.f a0 1).bind fun t311 => (some t311)) else (some false)) else (if t300 = true then (if a0 = 32801 then ((pack_Known.f a0 1).bind fun t312 => (some t312)) else (if t301 = true then (some false) else (some true))) else (some false)))) = some r := by rw [if_neg (show ¬ (false = true) by decide)] at H; exact H
        clear H
        have H := H1
        clear H1
        by_cases c44 : a0 = 49185
        · rw [if_pos c44] at H
          have c44b0 : (a0 == 49185) = true := beq_iff_eq.mpr c44
          have c44b1 : (a0 != 49185) = false := bne_eq_false_iff_eq.mpr c44
          clear c44
          by_cases c45 : t300 = true
          · subst c45
            have H1 : ((pack_Known.f a0 1).bind fun t310 => (some t310)) = some r := by rw [if_pos rfl] at H; exact H
            clear H
            have H := H1
            clear H1
            replace H := Option.bind_eq_some_iff.mp H
            obtain ⟨t310, A460, H⟩ := H
            replace H : (some t310) = some r := H
            have A46 := Aside0.mk A460
            clear A460
            clear hlaw_
            obtain rfl := Option.some.inj H
            go_wp2_with (first | (go_at_call 16; (with_reducible refine (pack_Known.calls a0 1 t310 _ A46.out).mono ?_); rintro e w47 ⟨rfl, hb⟩; have n0_ := Aside0.mk (below_step (by repeat (first | (with_reducible first | exact HB.out | apply pA | apply pN | apply pD) | exact HB.out)) hb); clear HB; have HB := n0_; clear n0_; (try clear hb); (try clear hb2); (try clear hk); (try clear hi)))
            go_ret
            exact ⟨by first | rfl | (simp [errW_none, errW_some] <;> rfl) | (simp [*, errW_none, errW_some] <;> rfl), by repeat (first | (with_reducible first | exact HB.out | apply pA | apply pN | apply pD) | exact HB.out)⟩
          · replace c45 := Bool.eq_false_iff.mpr c45
            subst c45
            have H1 : (some false) = some r := by rw [if_neg (show ¬ (false = true) by decide)] at H; exact H
            clear H
            have H := H1
            clear H1
            exact absurd ((Option.some.inj H).trans hlaw_.out) (by decide)
        · rw [if_neg c44] at H
          have c44b0 : (a0 == 49185) = false := beq_eq_false_iff_ne.mpr c44
          have c44b1 : (a0 != 49185) = true := bne_iff_ne.mpr c44
          by_cases c48 : a0 = 49699
          · rw [if_pos c48] at H
            have c48b0 : (a0 == 49699) = true := beq_iff_eq.mpr c48
            have c48b1 : (a0 != 49699) = false := bne_eq_false_iff_eq.mpr c48
            clear c48
            by_cases c49 : t300 = true
            · subst c49
              have H1 : ((pack_Known.f a0 1).bind fun t311 => (some t311)) = some r := by rw [if_pos rfl] at H; exact H
              clear H
              have H := H1
              clear H1
              replace H := Option.bind_eq_some_iff.mp H
              obtain ⟨t311, A500, H⟩ := H
              replace H : (some t311) = some r := H
              have A50 := Aside0.mk A500
              clear A500
              clear hlaw_
              obtain rfl := Option.some.inj H
              go_wp2_with (first | (go_at_call 16; (with_reducible refine (pack_Known.calls a0 1 t311 _ A50.out).mono ?_); rintro e w51 ⟨rfl, hb⟩; have n0_ := Aside0.mk (below_step (by repeat (first | (with_reducible first | exact HB.out | apply pA | apply pN | apply pD) | exact HB.out)) hb); clear HB; have HB := n0_; clear n0_; (try clear hb); (try clear hb2); (try clear hk); (try clear hi)))
              go_ret
              exact ⟨by first | rfl | (simp [errW_none, errW_some] <;> rfl) | (simp [*, errW_none, errW_some] <;> rfl), by repeat (first | (with_reducible first | exact HB.out | apply pA | apply pN | apply pD) | exact HB.out)⟩
            · replace c49 := Bool.eq_false_iff.mpr c49
              subst c49
              have H1 : (some false) = some r := by rw [if_neg (show ¬ (false = true) by decide)] at H; exact H
              clear H
              have H := H1
              clear H1
              exact absurd ((Option.some.inj H).trans hlaw_.out) (by decide)
          · rw [if_neg c48] at H
            have c48b0 : (a0 == 49699) = false := beq_eq_false_iff_ne.mpr c48
            have c48b1 : (a0 != 49699) = true := bne_iff_ne.mpr c48
            by_cases c52 : t300 = true
            · subst c52
              have H1 : (if a0 = 32801 then ((pack_Known.f a0 1).bind fun t312 => (some t312)) else (if t301 = true then (some false) else (some true))) = some r := by rw [if_pos rfl] at H; exact H
              clear H
              have H := H1
              clear H1
              by_cases c53 : a0 = 32801
              · rw [if_pos c53] at H
                have c53b0 : (a0 == 32801) = true := beq_iff_eq.mpr c53
                have c53b1 : (a0 != 32801) = false := bne_eq_false_iff_eq.mpr c53
                clear c53
                replace H := Option.bind_eq_some_iff.mp H
                obtain ⟨t312, A540, H⟩ := H
                replace H : (some t312) = some r := H
                have A54 := Aside0.mk A540
                clear A540
                clear hlaw_
                obtain rfl := Option.some.inj H
                go_wp2_with (first | (go_at_call 16; (with_reducible refine (pack_Known.calls a0 1 t312 _ A54.out).mono ?_); rintro e w55 ⟨rfl, hb⟩; have n0_ := Aside0.mk (below_step (by repeat (first | (with_reducible first | exact HB.out | apply pA | apply pN | apply pD) | exact HB.out)) hb); clear HB; have HB := n0_; clear n0_; (try clear hb); (try clear hb2); (try clear hk); (try clear hi)))
                go_ret
                exact ⟨by first | rfl | (simp [errW_none, errW_some] <;> rfl) | (simp [*, errW_none, errW_some] <;> rfl), by repeat (first | (with_reducible first | exact HB.out | apply pA | apply pN | apply pD) | exact HB.out)⟩
              · rw [if_neg c53] at H
                have c53b0 : (a0 == 32801) = false := beq_eq_false_iff_ne.mpr c53
                have c53b1 : (a0 != 32801) = true := bne_iff_ne.mpr c53
                by_cases c56 : t301 = true
                · subst c56
                  have H1 : (some false) = some r := by rw [if_pos rfl] at H; exact H
                  clear H
                  have H := H1
                  clear H1
                  exact absurd ((Option.some.inj H).trans hlaw_.out) (by decide)
                · replace c56 := Bool.eq_false_iff.mpr c56
                  subst c56
                  have H1 : (some true) = some r := by rw [if_neg (show ¬ (false = true) by decide)] at H; exact H
                  clear H
                  have H := H1
                  clear H1
                  clear hlaw_
                  obtain rfl := Option.some.inj H
                  go_wp2
                  go_ret
                  exact ⟨by first | rfl | (simp [errW_none, errW_some] <;> rfl) | (simp [*, errW_none, errW_some] <;> rfl), by repeat (first | (with_reducible first | exact HB.out | apply pA | apply pN | apply pD) | exact HB.out)⟩
            · replace c52 := Bool.eq_false_iff.mpr c52
              subst c52
              have H1 : (some false) = some r := by rw [if_neg (show ¬ (false = true) by decide)] at H; exact H
              clear H
              have H := H1
              clear H1
              exact absurd ((Option.some.inj H).trans hlaw_.out) (by decide)

end Go.Proofs.Ytgijfaecplodfaa.Q

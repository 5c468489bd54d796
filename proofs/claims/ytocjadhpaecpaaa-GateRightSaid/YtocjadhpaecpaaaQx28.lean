-- written by this session's own program (wip/tools/myprint.py), over the kit's print
import Derived.Test.YtocjadhpaecpaaaQx0
import Derived.Test.YtocjadhpaecpaaaQx1
namespace Go.Proofs.Ytocjadhpaecpaaa.Q
open Go.RowKit Go.Proofs.YtocjadhpaecpaaaW.PrintWords Go.Proofs.YtocjadhpaecpaaaW.PrintLast Go.Proofs.YtocjadhpaecpaaaW.PrintMore
open Go.Proofs.YtocjadhpaecpaaaV
attribute [local go_sem] max2_int min2_int max_two min_two max_three min_three max_four min_four   -- for this text's walks alone
set_option linter.unusedVariables false
set_option linter.unusedSimpArgs false

attribute [local go_sem high] eqA41
/-! ### portreeveref16_Ops: function 16 -/
def portreeveref16_Ops.l0 : Nat → List (S41) → List (S41) → Int → Option (Bool)
 | 0, _, _, _ => none
 | k + 1, x0, x1, x5 => if x5 < (x0.length : Int) then (if 0 ≤ x5 then (if x5 < (x1.length : Int) then (if (!(((rd_T41 x0 x5).f0) == ((rd_T41 x1 x5).f0)) || (!(((rd_T41 x0 x5).f1) == ((rd_T41 x1 x5).f1)) || (!(((rd_T41 x0 x5).f2) == ((rd_T41 x1 x5).f2)) || (!(((rd_T41 x0 x5).f3) == ((rd_T41 x1 x5).f3)) || (!((((rd_T41 x0 x5).f4).toList) == (((rd_T41 x1 x5).f4).toList)) || (!(((rd_T41 x0 x5).f5) == ((rd_T41 x1 x5).f5)) || (!(((rd_T41 x0 x5).f6) == ((rd_T41 x1 x5).f6)) || (!(((rd_T41 x0 x5).f7) == ((rd_T41 x1 x5).f7)) || (!(((rd_T41 x0 x5).f8) == ((rd_T41 x1 x5).f8))))))))))) = true then (some false) else (portreeveref16_Ops.l0 k x0 x1 (wrap64 (x5 + 1)))) else (none)) else (none)) else (some true)
def portreeveref16_Ops.f (k : Nat) (l0 : List (S41)) (l1 : List (S41)) : Option (Bool) := if (l0.length : Int) = (l1.length : Int) then (portreeveref16_Ops.l0 k l0 l1 0) else (some false)
theorem portreeveref16_Ops.mono_l : ∀ k, (∀ y0 y1 y2, LeO (portreeveref16_Ops.l0 k y0 y1 y2) (portreeveref16_Ops.l0 (k + 1) y0 y1 y2))
 | 0 => fun _ _ _ r h => by simp [portreeveref16_Ops.l0] at h
 | k + 1 => by
  have ih0 := portreeveref16_Ops.mono_l k
  ·intro y0 y1 y2
   unfold portreeveref16_Ops.l0
   repeat' first
   | (with_reducible exact ih0 _ _ _)
   | (with_reducible exact LeO.refl _)
   | (with_reducible exact LeO.none _)
   | (with_reducible refine LeO.ite ?_ ?_)
   | (with_reducible refine LeO.bind ?_ (fun _ => ?_))
   | exact ih0 _ _ _
   | exact LeO.none _
   | refine LeO.ite ?_ ?_
   | refine LeO.bind ?_ (fun _ => ?_)
theorem portreeveref16_Ops.mono : ∀ a0 a1 k, LeO (portreeveref16_Ops.f k a0 a1) (portreeveref16_Ops.f (k + 1) a0 a1) := by
 intro a0 a1 k
 have ih0 := portreeveref16_Ops.mono_l k
 unfold portreeveref16_Ops.f
 repeat' first
   | (with_reducible exact ih0 _ _ _)
   | (with_reducible exact LeO.refl _)
   | (with_reducible exact LeO.none _)
   | (with_reducible refine LeO.ite ?_ ?_)
   | (with_reducible refine LeO.bind ?_ (fun _ => ?_))
   | exact ih0 _ _ _
   | exact LeO.none _
   | refine LeO.ite ?_ ?_
   | refine LeO.bind ?_ (fun _ => ?_)
set_option maxHeartbeats 8000000 in
set_option maxRecDepth 100000 in
theorem portreeveref16_Ops.calls (k : Nat) (A0 : Option Addr) (c0 : Nat) (l0 : List (S41)) (A1 : Option Addr) (c1 : Nat) (l1 : List (S41)) (r : Bool) (w : World) (hr0 : Kd.C k41 w A0 l0.length l0) (hc0 : l0.length ≤ c0) (hr1 : Kd.C k41 w A1 l1.length l1) (hc1 : l1.length ≤ c1) (h : portreeveref16_Ops.f k l0 l1 = some r) :
  Calls Try.prog 16 #[.slice A0 l0.length c0, .slice A1 l1.length c1] w fun e w' => e = .returned (.bool r) ∧ Drawn0 w w' := by
 have hu41 := Try.underlying41
 have ag := Aside0.mk hr0
 have HC0 := Aside0.mk hc0
 clear hr0 hc0
 have ah := Aside0.mk hr1
 have HC1 := Aside0.mk hc1
 clear hr1 hc1
 have H : (if (l0.length : Int) = (l1.length : Int) then (portreeveref16_Ops.l0 k l0 l1 0) else (some false)) = some r := h
 clear h
 by_cases c3 : (l0.length : Int) = (l1.length : Int)
 ·rw [if_pos c3] at H
  have ab : ((l0.length : Int) == (l1.length : Int)) = true := beq_iff_eq.mpr c3
  have ac : ((l0.length : Int) != (l1.length : Int)) = false := bne_eq_false_iff_eq.mpr c3
  have ad : (l0.length == l1.length) = true := by first | simpa using c3 | (simp at c3 ⊢; omega)
  clear c3
  have H' := Aside0.mk H
  clear H
  go_enter Try.func16, Try.ntmps16
  go_wp2
  repeat (go_quiet (fail); try go_wp2)
  go_loopg [5] k (fun kq v5 w' => ∃ (aa : Int), v5 = .int .i64 aa ∧ Aside0 (portreeveref16_Ops.l0 kq l0 l1 aa = some r) ∧ Aside0 (kq ≤ k) ∧ Drawn0 w w')
  case atStart => exact ⟨(0), (by first | rfl | (simp; done) | (simp [*]; done)), H', ⟨Nat.le_refl _⟩, by repeat (first | exact Drawn0.refl _ | apply Drawn0.step)⟩
  case round =>
   clear H'
   try clear c1
   try clear p2
   try clear c3
   try clear ab
   try clear ac
   try clear ad
   obtain ⟨aa, rfl, HA, ai, ⟨m1, rfl⟩⟩ := hrel
   cases gk with
   | zero => exact absurd HA.out (by simp [portreeveref16_Ops.l0])
   | succ k1 =>
    have H := HA.out
    clear HA
    simp only [portreeveref16_Ops.l0] at H
    by_cases c4 : aa < (l0.length : Int)
    ·rw [if_pos c4] at H
     have aj : decide (aa < (l0.length : Int)) = true := decide_eq_true c4
     clear c4
     by_cases c5 : 0 ≤ aa
     ·rw [if_pos c5] at H
      have al : decide (0 ≤ aa) = true := decide_eq_true c5
      clear c5
      by_cases c6 : aa < (l1.length : Int)
      ·rw [if_pos c6] at H
       have am : decide (aa < (l1.length : Int)) = true := decide_eq_true c6
       clear c6
       by_cases c7 : (!(((rd_T41 l0 aa).f0) == ((rd_T41 l1 aa).f0)) || (!(((rd_T41 l0 aa).f1) == ((rd_T41 l1 aa).f1)) || (!(((rd_T41 l0 aa).f2) == ((rd_T41 l1 aa).f2)) || (!(((rd_T41 l0 aa).f3) == ((rd_T41 l1 aa).f3)) || (!((((rd_T41 l0 aa).f4).toList) == (((rd_T41 l1 aa).f4).toList)) || (!(((rd_T41 l0 aa).f5) == ((rd_T41 l1 aa).f5)) || (!(((rd_T41 l0 aa).f6) == ((rd_T41 l1 aa).f6)) || (!(((rd_T41 l0 aa).f7) == ((rd_T41 l1 aa).f7)) || (!(((rd_T41 l0 aa).f8) == ((rd_T41 l1 aa).f8))))))))))) = true
       ·rw [if_pos c7] at H
        have ak : (!(((rd_T41 l0 aa).f0) == ((rd_T41 l1 aa).f0)) || (!(((rd_T41 l0 aa).f1) == ((rd_T41 l1 aa).f1)) || (!(((rd_T41 l0 aa).f2) == ((rd_T41 l1 aa).f2)) || (!(((rd_T41 l0 aa).f3) == ((rd_T41 l1 aa).f3)) || (!((((rd_T41 l0 aa).f4).toList) == (((rd_T41 l1 aa).f4).toList)) || (!(((rd_T41 l0 aa).f5) == ((rd_T41 l1 aa).f5)) || (!(((rd_T41 l0 aa).f6) == ((rd_T41 l1 aa).f6)) || (!(((rd_T41 l0 aa).f7) == ((rd_T41 l1 aa).f7)) || (!(((rd_T41 l0 aa).f8) == ((rd_T41 l1 aa).f8))))))))))) = true := c7
        clear c7
        obtain rfl := Option.some.inj H
        have p413 : 0 ≤ (aa : Int) := of_decide_eq_true (by first | (with_reducible assumption) | assumption)
        have q413 : aa < (l0.length : Int) := of_decide_eq_true (by first | (with_reducible assumption) | assumption)
        obtain ⟨ae, e413, hx413_0, hx413_1, hx413_2, hx413_3, hx413_4, hx413_5, hx413_6, hx413_7, hx413_8⟩ := at_T41 ag.out aa p413 q413
        cases e413
        replace p413 := eq_true p413
        replace q413 := eq_true q413
        have p414 : 0 ≤ (aa : Int) := of_decide_eq_true (by first | (with_reducible assumption) | assumption)
        have q414 : aa < (l1.length : Int) := of_decide_eq_true (by first | (with_reducible assumption) | assumption)
        obtain ⟨af, e414, hx414_0, hx414_1, hx414_2, hx414_3, hx414_4, hx414_5, hx414_6, hx414_7, hx414_8⟩ := at_T41 ah.out aa p414 q414
        cases e414
        replace p414 := eq_true p414
        replace q414 := eq_true q414
        go_wp2
        repeat (go_quiet (fail); try go_wp2)
        go_ret
        exact ⟨by first | rfl | (simp; done) | (simp [*]; done), by repeat (first | exact Drawn0.refl _ | apply Drawn0.step)⟩
       ·rw [if_neg c7] at H
        have ak : (!(((rd_T41 l0 aa).f0) == ((rd_T41 l1 aa).f0)) || (!(((rd_T41 l0 aa).f1) == ((rd_T41 l1 aa).f1)) || (!(((rd_T41 l0 aa).f2) == ((rd_T41 l1 aa).f2)) || (!(((rd_T41 l0 aa).f3) == ((rd_T41 l1 aa).f3)) || (!((((rd_T41 l0 aa).f4).toList) == (((rd_T41 l1 aa).f4).toList)) || (!(((rd_T41 l0 aa).f5) == ((rd_T41 l1 aa).f5)) || (!(((rd_T41 l0 aa).f6) == ((rd_T41 l1 aa).f6)) || (!(((rd_T41 l0 aa).f7) == ((rd_T41 l1 aa).f7)) || (!(((rd_T41 l0 aa).f8) == ((rd_T41 l1 aa).f8))))))))))) = false := by simpa using c7
        clear c7
        have H' := Aside0.mk H
        clear H
        have p413 : 0 ≤ (aa : Int) := of_decide_eq_true (by first | (with_reducible assumption) | assumption)
        have q413 : aa < (l0.length : Int) := of_decide_eq_true (by first | (with_reducible assumption) | assumption)
        obtain ⟨ae, e413, hx413_0, hx413_1, hx413_2, hx413_3, hx413_4, hx413_5, hx413_6, hx413_7, hx413_8⟩ := at_T41 ag.out aa p413 q413
        cases e413
        replace p413 := eq_true p413
        replace q413 := eq_true q413
        have p414 : 0 ≤ (aa : Int) := of_decide_eq_true (by first | (with_reducible assumption) | assumption)
        have q414 : aa < (l1.length : Int) := of_decide_eq_true (by first | (with_reducible assumption) | assumption)
        obtain ⟨af, e414, hx414_0, hx414_1, hx414_2, hx414_3, hx414_4, hx414_5, hx414_6, hx414_7, hx414_8⟩ := at_T41 ah.out aa p414 q414
        cases e414
        replace p414 := eq_true p414
        replace q414 := eq_true q414
        go_wp2
        repeat (go_quiet (fail); try go_wp2)
        go_roundg k1
        case measure => have := ai.out; omega
        case rel => exact ⟨(wrap64 (aa + 1)), (by first | rfl | (simp; done) | (simp [*]; done)), H', ⟨by have := ai.out; omega⟩, by repeat (first | exact Drawn0.refl _ | apply Drawn0.step)⟩
      ·rw [if_neg c6] at H
       exact absurd H (by simp)
     ·rw [if_neg c5] at H
      exact absurd H (by simp)
    ·rw [if_neg c4] at H
     have aj : decide (aa < (l0.length : Int)) = false := decide_eq_false c4
     clear c4
     obtain rfl := Option.some.inj H
     go_wp2
     repeat (go_quiet (fail); try go_wp2)
     go_ret
     exact ⟨by first | rfl | (simp; done) | (simp [*]; done), by repeat (first | exact Drawn0.refl _ | apply Drawn0.step)⟩
 ·rw [if_neg c3] at H
  have ab : ((l0.length : Int) == (l1.length : Int)) = false := beq_eq_false_iff_ne.mpr c3
  have ac : ((l0.length : Int) != (l1.length : Int)) = true := bne_iff_ne.mpr c3
  have ad : (l0.length == l1.length) = false := by first | simpa using c3 | (simp at c3 ⊢; omega)
  obtain rfl := Option.some.inj H
  go_enter Try.func16, Try.ntmps16
  go_wp2
  repeat (go_quiet (fail); try go_wp2)
  go_ret
  exact ⟨by first | rfl | (simp; done) | (simp [*]; done), by repeat (first | exact Drawn0.refl _ | apply Drawn0.step)⟩

end Go.Proofs.Ytocjadhpaecpaaa.Q

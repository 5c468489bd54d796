-- written by this session's own program (wip/tools/myprint.py), over the kit's print
import Derived.Test.YtdmhamnnadegnaaQx0
import Derived.Test.YtdmhamnnadegnaaQx1
import Derived.Test.YtdmhamnnadegnaaQx3
import Derived.Test.YtdmhamnnadegnaaQx5
import Derived.Test.YtdmhamnnadegnaaQx6
namespace Go.Proofs.Ytdmhamnnadegnaa.Q
open Go.RowKit Go.Proofs.YtdmhamnnadegnaaW.PrintWords Go.Proofs.YtdmhamnnadegnaaW.PrintLast Go.Proofs.YtdmhamnnadegnaaW.PrintMore
open Go.Proofs.YtdmhamnnadegnaaV
attribute [local go_sem] max2_int min2_int max_two min_two max_three min_three max_four min_four   -- for this text's walks alone
set_option linter.unusedVariables false
set_option linter.unusedSimpArgs false

/-! ### portreevelaw07_StuffBack: function 5 -/
mutual
def portreevelaw07_StuffBack.j0 : Nat → List Int → Int → List Int → Bool → Bool → Option (Bool)
  | 0, _, _, _, _, _ => none
  | k + 1, x0, x1, x2, x7, x22 => if x22 = true then (some x7) else ((stuff_Escape.f k x0 x1).bind fun t326 => ((stuff_Plain.f k t326).bind fun bt329 => (portreevelaw07_StuffBack.l0 k x0 x1 x2 x7 t326 bt329.1 bt329.2 0)))
def portreevelaw07_StuffBack.l0 : Nat → List Int → Int → List Int → Bool → List Int → List Int → Int → Int → Option (Bool)
  | 0, _, _, _, _, _, _, _, _ => none
  | k + 1, x0, x1, x2, x7, x8, x9, x10, x11 => if x11 < (x8.length : Int) then (if 0 ≤ x11 then (if (rd x8 x11) = 126 then (portreevelaw07_StuffBack.j2 k x0 x1 x2 x7 x8 x9 x10 x11 true) else (if (rd x8 x11) < 32 then (if 0 ≤ (rd x8 x11) then (portreevelaw07_StuffBack.j2 k x0 x1 x2 x7 x8 x9 x10 x11 ((Int.tmod (shr .u32 x1 (rd x8 x11)) 2) == 1)) else (none)) else (portreevelaw07_StuffBack.j2 k x0 x1 x2 x7 x8 x9 x10 x11 false))) else (none)) else (if x10 = 0 then ((portreeveref01_Row.f k x9 x0).bind fun t336 => (portreevelaw07_StuffBack.j3 k x0 x1 x2 x7 (!t336))) else (portreevelaw07_StuffBack.j3 k x0 x1 x2 x7 true))
def portreevelaw07_StuffBack.j2 : Nat → List Int → Int → List Int → Bool → List Int → List Int → Int → Int → Bool → Option (Bool)
  | 0, _, _, _, _, _, _, _, _, _ => none
  | k + 1, x0, x1, x2, x7, x8, x9, x10, x11, x59 => if x59 = true then (some false) else (portreevelaw07_StuffBack.l0 k x0 x1 x2 x7 x8 x9 x10 (wrap64 (x11 + 1)))
def portreevelaw07_StuffBack.j3 : Nat → List Int → Int → List Int → Bool → Bool → Option (Bool)
  | 0, _, _, _, _, _ => none
  | k + 1, x0, x1, x2, x7, x67 => if x67 = true then (some false) else ((stuff_Send.f k x0 x1).bind fun t337 => ((stuff_All.f k t337).bind fun t340 => (if (x0.length : Int) = 0 then (if x7 = true then (some ((t340.length : Int) == 0)) else (some false)) else ((some (([] : List Int) : List Int)).bind fun y343 => (if y343.length + x2.length < 140737488355328 then ((some (y343 ++ x2 : List Int)).bind fun y346 => ((stuff_Send.f k x0 x1).bind fun t349 => (if y346.length + t349.length < 140737488355328 then ((stuff_All.f k (y346 ++ t349)).bind fun t355 => (if x7 = true then (if (t340.length : Int) = 1 then (if 0 < (t340.length : Int) then ((portreeveref01_Row.f k (rd_L2 t340 0) x0).bind fun t359 => (if t359 = true then (if (t355.length : Int) ≥ 1 then (if 0 ≤ (wrap64 ((t355.length : Int) - 1)) then (if (wrap64 ((t355.length : Int) - 1)) < (t355.length : Int) then ((portreeveref01_Row.f k (rd_L2 t355 (wrap64 ((t355.length : Int) - 1))) x0).bind fun t361 => (some t361)) else (none)) else (none)) else (some false)) else (some false))) else (none)) else (some false)) else (some false))) else (none)))) else (none))))))
end
def portreevelaw07_StuffBack.f (k : Nat) (l0 : List Int) (a1 : Int) (l2 : List Int) : Option (Bool) := (portreevelaw07_shown.f k).bind fun t325 => (if (l0.length : Int) > 700 then (portreevelaw07_StuffBack.j0 k l0 a1 l2 t325 true) else (portreevelaw07_StuffBack.j0 k l0 a1 l2 t325 (decide ((l2.length : Int) > 700))))
theorem portreevelaw07_StuffBack.mono_l : ∀ k, (∀ y0 y1 y2 y3 y4, LeO (portreevelaw07_StuffBack.j0 k y0 y1 y2 y3 y4) (portreevelaw07_StuffBack.j0 (k + 1) y0 y1 y2 y3 y4)) ∧ (∀ y0 y1 y2 y3 y4 y5 y6 y7, LeO (portreevelaw07_StuffBack.l0 k y0 y1 y2 y3 y4 y5 y6 y7) (portreevelaw07_StuffBack.l0 (k + 1) y0 y1 y2 y3 y4 y5 y6 y7)) ∧ (∀ y0 y1 y2 y3 y4 y5 y6 y7 y8, LeO (portreevelaw07_StuffBack.j2 k y0 y1 y2 y3 y4 y5 y6 y7 y8) (portreevelaw07_StuffBack.j2 (k + 1) y0 y1 y2 y3 y4 y5 y6 y7 y8)) ∧ (∀ y0 y1 y2 y3 y4, LeO (portreevelaw07_StuffBack.j3 k y0 y1 y2 y3 y4) (portreevelaw07_StuffBack.j3 (k + 1) y0 y1 y2 y3 y4))
  | 0 => ⟨fun _ _ _ _ _ r h => by simp [portreevelaw07_StuffBack.j0] at h, fun _ _ _ _ _ _ _ _ r h => by simp [portreevelaw07_StuffBack.l0] at h, fun _ _ _ _ _ _ _ _ _ r h => by simp [portreevelaw07_StuffBack.j2] at h, fun _ _ _ _ _ r h => by simp [portreevelaw07_StuffBack.j3] at h⟩
  | k + 1 => by
    obtain ⟨ih0, ih1, ih2, ih3⟩ := portreevelaw07_StuffBack.mono_l k
    refine ⟨?_, ?_, ?_, ?_⟩
    · intro y0 y1 y2 y3 y4
      unfold portreevelaw07_StuffBack.j0
      repeat' first
      | (with_reducible exact ih0 _ _ _ _ _)
      | (with_reducible exact ih1 _ _ _ _ _ _ _ _)
      | (with_reducible exact ih2 _ _ _ _ _ _ _ _ _)
      | (with_reducible exact ih3 _ _ _ _ _)
      | (with_reducible exact portreevelaw07_shown.mono _)
      | (with_reducible exact portreeveref01_Row.mono _ _ _)
      | (with_reducible exact stuff_All.mono _ _)
      | (with_reducible exact stuff_Escape.mono _ _ _)
      | (with_reducible exact stuff_Plain.mono _ _)
      | (with_reducible exact stuff_Send.mono _ _ _)
      | (with_reducible exact LeO.refl _)
      | (with_reducible exact LeO.none _)
      | (with_reducible refine LeO.ite ?_ ?_)
      | (with_reducible refine LeO.bind ?_ (fun _ => ?_))
      | exact ih0 _ _ _ _ _
      | exact ih1 _ _ _ _ _ _ _ _
      | exact ih2 _ _ _ _ _ _ _ _ _
      | exact ih3 _ _ _ _ _
      | exact portreevelaw07_shown.mono _
      | exact portreeveref01_Row.mono _ _ _
      | exact stuff_All.mono _ _
      | exact stuff_Escape.mono _ _ _
      | exact stuff_Plain.mono _ _
      | exact stuff_Send.mono _ _ _
      | exact LeO.none _
      | refine LeO.ite ?_ ?_
      | refine LeO.bind ?_ (fun _ => ?_)
    · intro y0 y1 y2 y3 y4 y5 y6 y7
      unfold portreevelaw07_StuffBack.l0
      repeat' first
      | (with_reducible exact ih0 _ _ _ _ _)
      | (with_reducible exact ih1 _ _ _ _ _ _ _ _)
      | (with_reducible exact ih2 _ _ _ _ _ _ _ _ _)
      | (with_reducible exact ih3 _ _ _ _ _)
      | (with_reducible exact portreevelaw07_shown.mono _)
      | (with_reducible exact portreeveref01_Row.mono _ _ _)
      | (with_reducible exact stuff_All.mono _ _)
      | (with_reducible exact stuff_Escape.mono _ _ _)
      | (with_reducible exact stuff_Plain.mono _ _)
      | (with_reducible exact stuff_Send.mono _ _ _)
      | (with_reducible exact LeO.refl _)
      | (with_reducible exact LeO.none _)
      | (with_reducible refine LeO.ite ?_ ?_)
      | (with_reducible refine LeO.bind ?_ (fun _ => ?_))
      | exact ih0 _ _ _ _ _
      | exact ih1 _ _ _ _ _ _ _ _
      | exact ih2 _ _ _ _ _ _ _ _ _
      | exact ih3 _ _ _ _ _
      | exact portreevelaw07_shown.mono _
      | exact portreeveref01_Row.mono _ _ _
      | exact stuff_All.mono _ _
      | exact stuff_Escape.mono _ _ _
      | exact stuff_Plain.mono _ _
      | exact stuff_Send.mono _ _ _
      | exact LeO.none _
      | refine LeO.ite ?_ ?_
      | refine LeO.bind ?_ (fun _ => ?_)
    · intro y0 y1 y2 y3 y4 y5 y6 y7 y8
      unfold portreevelaw07_StuffBack.j2
      repeat' first
      | (with_reducible exact ih0 _ _ _ _ _)
      | (with_reducible exact ih1 _ _ _ _ _ _ _ _)
      | (with_reducible exact ih2 _ _ _ _ _ _ _ _ _)
      | (with_reducible exact ih3 _ _ _ _ _)
      | (with_reducible exact portreevelaw07_shown.mono _)
      | (with_reducible exact portreeveref01_Row.mono _ _ _)
      | (with_reducible exact stuff_All.mono _ _)
      | (with_reducible exact stuff_Escape.mono _ _ _)
      | (with_reducible exact stuff_Plain.mono _ _)
      | (with_reducible exact stuff_Send.mono _ _ _)
      | (with_reducible exact LeO.refl _)
      | (with_reducible exact LeO.none _)
      | (with_reducible refine LeO.ite ?_ ?_)
      | (with_reducible refine LeO.bind ?_ (fun _ => ?_))
      | exact ih0 _ _ _ _ _
      | exact ih1 _ _ _ _ _ _ _ _
      | exact ih2 _ _ _ _ _ _ _ _ _
      | exact ih3 _ _ _ _ _
      | exact portreevelaw07_shown.mono _
      | exact portreeveref01_Row.mono _ _ _
      | exact stuff_All.mono _ _
      | exact stuff_Escape.mono _ _ _
      | exact stuff_Plain.mono _ _
      | exact stuff_Send.mono _ _ _
      | exact LeO.none _
      | refine LeO.ite ?_ ?_
      | refine LeO.bind ?_ (fun _ => ?_)
    · intro y0 y1 y2 y3 y4
      unfold portreevelaw07_StuffBack.j3
      repeat' first
      | (with_reducible exact ih0 _ _ _ _ _)
      | (with_reducible exact ih1 _ _ _ _ _ _ _ _)
      | (with_reducible exact ih2 _ _ _ _ _ _ _ _ _)
      | (with_reducible exact ih3 _ _ _ _ _)
      | (with_reducible exact portreevelaw07_shown.mono _)
      | (with_reducible exact portreeveref01_Row.mono _ _ _)
      | (with_reducible exact stuff_All.mono _ _)
      | (with_reducible exact stuff_Escape.mono _ _ _)
      | (with_reducible exact stuff_Plain.mono _ _)
      | (with_reducible exact stuff_Send.mono _ _ _)
      | (with_reducible exact LeO.refl _)
      | (with_reducible exact LeO.none _)
      | (with_reducible refine LeO.ite ?_ ?_)
      | (with_reducible refine LeO.bind ?_ (fun _ => ?_))
      | exact ih0 _ _ _ _ _
      | exact ih1 _ _ _ _ _ _ _ _
      | exact ih2 _ _ _ _ _ _ _ _ _
      | exact ih3 _ _ _ _ _
      | exact portreevelaw07_shown.mono _
      | exact portreeveref01_Row.mono _ _ _
      | exact stuff_All.mono _ _
      | exact stuff_Escape.mono _ _ _
      | exact stuff_Plain.mono _ _
      | exact stuff_Send.mono _ _ _
      | exact LeO.none _
      | refine LeO.ite ?_ ?_
      | refine LeO.bind ?_ (fun _ => ?_)
theorem portreevelaw07_StuffBack.mono : ∀ a0 a1 a2 k, LeO (portreevelaw07_StuffBack.f k a0 a1 a2) (portreevelaw07_StuffBack.f (k + 1) a0 a1 a2) := by
  intro a0 a1 a2 k
  obtain ⟨ih0, ih1, ih2, ih3⟩ := portreevelaw07_StuffBack.mono_l k
  unfold portreevelaw07_StuffBack.f
  repeat' first
      | (with_reducible exact ih0 _ _ _ _ _)
      | (with_reducible exact ih1 _ _ _ _ _ _ _ _)
      | (with_reducible exact ih2 _ _ _ _ _ _ _ _ _)
      | (with_reducible exact ih3 _ _ _ _ _)
      | (with_reducible exact portreevelaw07_shown.mono _)
      | (with_reducible exact portreeveref01_Row.mono _ _ _)
      | (with_reducible exact stuff_All.mono _ _)
      | (with_reducible exact stuff_Escape.mono _ _ _)
      | (with_reducible exact stuff_Plain.mono _ _)
      | (with_reducible exact stuff_Send.mono _ _ _)
      | (with_reducible exact LeO.refl _)
      | (with_reducible exact LeO.none _)
      | (with_reducible refine LeO.ite ?_ ?_)
      | (with_reducible refine LeO.bind ?_ (fun _ => ?_))
      | exact ih0 _ _ _ _ _
      | exact ih1 _ _ _ _ _ _ _ _
      | exact ih2 _ _ _ _ _ _ _ _ _
      | exact ih3 _ _ _ _ _
      | exact portreevelaw07_shown.mono _
      | exact portreeveref01_Row.mono _ _ _
      | exact stuff_All.mono _ _
      | exact stuff_Escape.mono _ _ _
      | exact stuff_Plain.mono _ _
      | exact stuff_Send.mono _ _ _
      | exact LeO.none _
      | refine LeO.ite ?_ ?_
      | refine LeO.bind ?_ (fun _ => ?_)
set_option maxHeartbeats 8000000 in
set_option maxRecDepth 100000 in
theorem portreevelaw07_StuffBack.calls (k : Nat) (A0 : Option Addr) (c0 : Nat) (l0 : List Int) (a1 : Int) (A2 : Option Addr) (c2 : Nat) (l2 : List Int) (r : Bool) (w : World) (hlaw_ : Aside0 (r = true)) (hr0 : Kd.C (Kd.int .u8) w A0 l0.length l0) (hc0 : l0.length ≤ c0) (hr2 : Kd.C (Kd.int .u8) w A2 l2.length l2) (hc2 : l2.length ≤ c2) (h : portreevelaw07_StuffBack.f k l0 a1 l2 = some r) :
    Calls Try.prog 5 #[.slice A0 l0.length c0, .int .u32 a1, .slice A2 l2.length c2] w fun e w' => e = .returned (.bool r) ∧ Below w.heap.size w w' := by
  have HR0 := Aside0.mk hr0
  have HC0 := Aside0.mk hc0
  clear hr0 hc0
  have HR2 := Aside0.mk hr2
  have HC2 := Aside0.mk hc2
  clear hr2 hc2
  have HB := Aside0.mk (Below.refl w.heap.size w)
  have H : ((portreevelaw07_shown.f k).bind fun t325 => (if (l0.length : Int) > 700 then (portreevelaw07_StuffBack.j0 k l0 a1 l2 t325 true) else (portreevelaw07_StuffBack.j0 k l0 a1 l2 t325 (decide ((l2.length : Int) > 700))))) = some r := h
  clear h
  replace H := Option.bind_eq_some_iff.mp H
  obtain ⟨t325, A40, H⟩ := H
  replace H : (if (l0.length : Int) > 700 then (portreevelaw07_StuffBack.j0 k l0 a1 l2 t325 true) else (portreevelaw07_StuffBack.j0 k l0 a1 l2 t325 (decide ((l2.length : Int) > 700)))) = some r := H
  have A4 := Aside0.mk A40
  clear A40
  have HC5 := Aside0.mk H
  clear H
  go_enter Try.func5, Try.ntmps5
  go_upto_region 2 with (first | ((with_reducible refine gate_callee (f := 10) rfl ?_); refine goesL_ (some 14) rfl rfl Try.func10 (by kernel_rfl) rfl #[] rfl (by (try simp only [List.map_toArray, List.map_cons, List.map_nil]); first | done | rfl | (simp only [List.length_drop, List.length_take]; rfl)) ?_; (with_reducible refine (portreevelaw07_shown.calls k  t325 _ A4.out).mono ?_); rintro e w6 ⟨rfl, hb⟩; refine ⟨_, rfl, ?_⟩; have n0_ := Aside0.mk (below_step (by repeat (first | (with_reducible first | exact HB.out | apply pA | apply pN | apply pD) | exact HB.out)) hb); clear HB; have HB := n0_; clear n0_; (try clear hb); (try clear hb2); (try clear hk); (try clear hi)))
  (try simp only [Act.put, List.setIfInBounds_toArray, List.set_cons_zero, List.set_cons_succ])
  go_cut [22] (fun v22 wc => ∃ (kq : Nat) (x22_4 : Bool), v22 = .bool x22_4 ∧ Aside0 (portreevelaw07_StuffBack.j0 kq l0 a1 l2 t325 x22_4 = some r) ∧ Aside0 (kq ≤ k) ∧ Aside0 (Below w.heap.size w wc))
  case first =>
    have H := HC5.out
    clear HC5
    by_cases c7 : (l0.length : Int) > 700
    · rw [if_pos c7] at H
      have c7b0 : decide (700 < (l0.length : Int)) = true := decide_eq_true c7
      have c7b1 : decide (700 < l0.length) = true := decide_eq_true (by omega)
      clear c7
      (first | rw [c7b0] | (simp only [i64_w, i32_w]; rw [c7b0]) | skip)
      have H' := Aside0.mk H
      clear H
      go_wp2
      go_meet
      case rel => exact ⟨_, (true), (by first | rfl | (simp; done) | (simp [*]; done)), H', ⟨by first | omega | exact Nat.le_refl _⟩, ⟨by repeat (first | (with_reducible first | exact HB.out | apply pA | apply pN | apply pD) | exact HB.out)⟩⟩
    · rw [if_neg c7] at H
      have c7b0 : decide (700 < (l0.length : Int)) = false := decide_eq_false c7
      have c7b1 : decide (700 < l0.length) = false := decide_eq_false (by omega)
      clear c7
      (first | rw [c7b0] | (simp only [i64_w, i32_w]; rw [c7b0]) | skip)
      have H' := Aside0.mk H
      clear H
      go_wp2
      go_meet
      case rel => exact ⟨_, (decide ((l2.length : Int) > 700)), (by first | rfl | (simp; done) | (simp [*]; done)), H', ⟨by first | omega | exact Nat.le_refl _⟩, ⟨by repeat (first | (with_reducible first | exact HB.out | apply pA | apply pN | apply pD) | exact HB.out)⟩⟩
  case rest =>
    clear HC5
    try clear c1
    try clear c2
    try clear p2
    try clear c5
    try clear c7
    try clear c7b0
    try clear c7b1
    obtain ⟨kq, x22_4, rfl, HA, HJ4, HB⟩ := hcut
    cases kq with
    | zero => exact absurd HA.out (by simp [portreevelaw07_StuffBack.j0])
    | succ kj4 =>
      have H := HA.out
      clear HA
      simp only [portreevelaw07_StuffBack.j0] at H
      by_cases c8 : x22_4 = true
      · subst c8
        have H1 : (some t325) = some r := by rw [if_pos rfl] at H; exact H
        clear H
        have H := H1
        clear H1
        clear hlaw_
        obtain rfl := Option.some.inj H
        go_wp2
        go_ret
        exact ⟨by first | rfl | (simp [errW_none, errW_some] <;> rfl) | (simp [*, errW_none, errW_some] <;> rfl), by repeat (first | (with_reducible first | exact HB.out | apply pA | apply pN | apply pD) | exact HB.out)⟩
      · replace c8 := Bool.eq_false_iff.mpr c8
        subst c8
        have H1 : ((stuff_Escape.f kj4 l0 a1).bind fun t326 => ((stuff_Plain.f kj4 t326).bind fun bt329 => (portreevelaw07_StuffBack.l0 kj4 l0 a1 l2 t325 t326 bt329.1 bt329.2 0))) = some r := by rw [if_neg (show ¬ (false = true) by decide)] at H; exact H
        clear H
        have H := H1
        clear H1
        replace H := Option.bind_eq_some_iff.mp H
        obtain ⟨t326, A90, H⟩ := H
        replace H : ((stuff_Plain.f kj4 t326).bind fun bt329 => (portreevelaw07_StuffBack.l0 kj4 l0 a1 l2 t325 t326 bt329.1 bt329.2 0)) = some r := H
        have A9 := Aside0.mk A90
        clear A90
        replace H := Option.bind_eq_some_iff.mp H
        obtain ⟨⟨t329, t330⟩, A100, H⟩ := H
        replace H : (portreevelaw07_StuffBack.l0 kj4 l0 a1 l2 t325 t326 t329 t330 0) = some r := H
        have A10 := Aside0.mk A100
        clear A100
        have H' := Aside0.mk H
        clear H
        go_wp2_with (first | ((with_reducible refine gate_callee (f := 14) rfl ?_); refine goesL_ (some 26) rfl rfl Try.func14 (by kernel_rfl) rfl #[.slice A0 l0.length c0, .int .u32 a1] rfl (by (try simp only [List.map_toArray, List.map_cons, List.map_nil]); first | done | rfl | (simp only [List.length_drop, List.length_take]; rfl)) ?_; (with_reducible refine (stuff_Escape.calls kj4 _ _ l0 a1 t326 _ ?side1 ?side2 A9.out).mono ?_); (case side1 => repeat (first | exact (Kd.C_below HR0.out HB.out) | (with_reducible refine Kd.C_alloc ?_ _) | (with_reducible refine Kd.C_drewN ?_ _) | (with_reducible refine Kd.C_drew ?_))); (case side2 => exact HC0.out); rintro e w11 ⟨v327, rfl, ho0, hb⟩; refine ⟨_, rfl, ?_⟩; have n0_ := Aside0.mk (Kd.R_lower ho0 (below_size (by repeat (first | (with_reducible first | exact HB.out | apply pA | apply pN | apply pD) | exact HB.out)))); have n1_ := Aside0.mk (below_step (by repeat (first | (with_reducible first | exact HB.out | apply pA | apply pN | apply pD) | exact HB.out)) hb); clear HB; have HO328 := n0_; have HB := n1_; clear n0_ n1_; (try clear hb); (try clear hb2); (try clear hk); (try clear hi); (try clear ho0); obtain ⟨Ao12, co12, eo12⟩ := Kd.R_slice HO328.out; subst eo12) | ((with_reducible refine gate_callee (f := 11) rfl ?_); refine goesL_ (some 29) rfl rfl Try.func11 (by kernel_rfl) rfl #[.slice Ao12 t326.length co12] rfl (by (try simp only [List.map_toArray, List.map_cons, List.map_nil]); first | done | rfl | (simp only [List.length_drop, List.length_take]; rfl)) ?_; (with_reducible refine (stuff_Plain.calls kj4 _ _ t326 t329 t330 _ ?side1 ?side2 A10.out).mono ?_); (case side1 => repeat (first | exact (Kd.R_reads' HO328.out).2.2 | (with_reducible refine Kd.C_alloc ?_ _) | (with_reducible refine Kd.C_drewN ?_ _) | (with_reducible refine Kd.C_drew ?_))); (case side2 => exact (Kd.R_reads' HO328.out).2.1); rintro e w13 ⟨v331, rfl, ho0, hb⟩; refine ⟨_, rfl, ?_⟩; have n0_ := Aside0.mk (Kd.R_elder' (by (with_reducible repeat (first | apply Kd.R_alloc | apply Kd.R_drewN | apply Kd.R_drew)); exact HO328.out) (Kd.R_base ho0) hb); have n1_ := Aside0.mk (Kd.R_lower (Kd.R_new' ho0 (Kd.R_lt (by (with_reducible repeat (first | apply Kd.R_alloc | apply Kd.R_drewN | apply Kd.R_drew)); exact HO328.out))) (below_size (by repeat (first | (with_reducible first | exact HB.out | apply pA | apply pN | apply pD) | exact HB.out)))); have n2_ := Aside0.mk (below_step (by repeat (first | (with_reducible first | exact HB.out | apply pA | apply pN | apply pD) | exact HB.out)) hb); clear HO328; clear HB; have HO328 := n0_; have HO332 := n1_; have HB := n2_; clear n0_ n1_ n2_; (try clear hb); (try clear hb2); (try clear hk); (try clear hi); (try clear ho0)))
        go_loopg [11] kj4 (fun kq v11 w' => ∃ (x11_2 : Int), v11 = .int .i64 x11_2 ∧ Aside0 (portreevelaw07_StuffBack.l0 kq l0 a1 l2 t325 t326 t329 t330 x11_2 = some r) ∧ Aside0 (kq ≤ kj4) ∧ Aside0 (Kd.R (Kd.int .u8) 5 w' w.heap.size (fun k_ => some k_ ≠ (v331 : Value).ownBlock) (.slice Ao12 t326.length co12) t326) ∧ Aside0 (Kd.R (Kd.int .u8) 5 w' w.heap.size (fun k_ => some k_ ≠ ((.slice Ao12 t326.length co12) : Value).ownBlock) v331 t329) ∧ Aside0 (Below w.heap.size w w'))
        case atStart => exact ⟨(0), (by first | rfl | (simp; done) | (simp [*]; done)), H', ⟨Nat.le_refl _⟩, ⟨by (with_reducible repeat (first | apply Kd.R_alloc | apply Kd.R_drewN | apply Kd.R_drew)); exact Kd.R_mono HO328.out (fun _ hk => hk.2)⟩, ⟨by (with_reducible repeat (first | apply Kd.R_alloc | apply Kd.R_drewN | apply Kd.R_drew)); exact Kd.R_mono HO332.out (fun _ hk => hk.2)⟩, ⟨by repeat (first | (with_reducible first | exact HB.out | apply pA | apply pN | apply pD) | exact HB.out)⟩⟩
        case round =>
          clear H'
          try clear c1
          try clear c2
          try clear p2
          try clear c5
          try clear c7
          try clear c7b0
          try clear c7b1
          try clear c8
          try clear c10
          try clear c11
          try clear p2
          obtain ⟨x11_2, rfl, HA, HK2, HO_8, HO_9, HB⟩ := hrel
          cases gk with
          | zero => exact absurd HA.out (by simp [portreevelaw07_StuffBack.l0])
          | succ k2 =>
            have H := HA.out
            clear HA
            simp only [portreevelaw07_StuffBack.l0] at H
            by_cases c14 : x11_2 < (t326.length : Int)
            · rw [if_pos c14] at H
              have c14b0 : decide (x11_2 < (t326.length : Int)) = true := decide_eq_true c14
              clear c14
              have HC15 := Aside0.mk H
              clear H
              go_upto_region 9 with (fail)
              go_cut [59] (fun v59 wc => ∃ (kq : Nat) (x59_14 : Bool), v59 = .bool x59_14 ∧ Aside0 (portreevelaw07_StuffBack.j2 kq l0 a1 l2 t325 t326 t329 t330 x11_2 x59_14 = some r) ∧ Aside0 (kq ≤ k2) ∧ Aside0 (Kd.R (Kd.int .u8) 5 wc w.heap.size (fun k_ => some k_ ≠ (v331 : Value).ownBlock) (.slice Ao12 t326.length co12) t326) ∧ Aside0 (Kd.R (Kd.int .u8) 5 wc w.heap.size (fun k_ => some k_ ≠ ((.slice Ao12 t326.length co12) : Value).ownBlock) v331 t329) ∧ Aside0 (Below w.heap.size w wc))
              case first =>
                have H := HC15.out
                clear HC15
                by_cases c16 : 0 ≤ x11_2
                · rw [if_pos c16] at H
                  have c16b0 : decide (0 ≤ x11_2) = true := decide_eq_true c16
                  clear c16
                  (first | rw [c16b0] | (simp only [i64_w, i32_w]; rw [c16b0]) | skip)
                  by_cases c17 : (rd t326 x11_2) = 126
                  · rw [if_pos c17] at H
                    have c17b0 : ((rd t326 x11_2) == 126) = true := beq_iff_eq.mpr c17
                    have c17b1 : ((rd t326 x11_2) != 126) = false := bne_eq_false_iff_eq.mpr c17
                    clear c17
                    have H' := Aside0.mk H
                    clear H
                    have p333 : 0 ≤ (x11_2 : Int) := of_decide_eq_true (by first | (with_reducible assumption) | assumption)
                    have q333 : x11_2 < (t326.length : Int) := of_decide_eq_true (by first | (with_reducible assumption) | assumption)
                    obtain ⟨ad333, e333, hx333_0⟩ := Kd.at_int (Kd.R_reads' HO_8.out).2.2 x11_2 p333 q333
                    cases e333
                    replace p333 := eq_true p333
                    replace q333 := eq_true q333
                    go_wp2
                    go_meet
                    case rel => exact ⟨_, (true), (by first | rfl | (simp; done) | (simp [*]; done)), H', ⟨by have := HJ4.out; have := HK2.out; first | omega | exact Nat.le_refl _⟩, ⟨by (with_reducible repeat (first | apply Kd.R_alloc | apply Kd.R_drewN | apply Kd.R_drew)); exact HO_8.out⟩, ⟨by (with_reducible repeat (first | apply Kd.R_alloc | apply Kd.R_drewN | apply Kd.R_drew)); exact HO_9.out⟩, ⟨by repeat (first | (with_reducible first | exact HB.out | apply pA | apply pN | apply pD) | exact HB.out)⟩⟩
                  · rw [if_neg c17] at H
                    have c17b0 : ((rd t326 x11_2) == 126) = false := beq_eq_false_iff_ne.mpr c17
                    have c17b1 : ((rd t326 x11_2) != 126) = true := bne_iff_ne.mpr c17
                    by_cases c18 : (rd t326 x11_2) < 32
                    · rw [if_pos c18] at H
                      have c18b0 : decide ((rd t326 x11_2) < 32) = true := decide_eq_true c18
                      clear c18
                      by_cases c19 : 0 ≤ (rd t326 x11_2)
                      · rw [if_pos c19] at H
                        have c19b0 := eq_true c19
                        have c19b1 : decide (0 ≤ (rd t326 x11_2)) = true := decide_eq_true c19
                        clear c19
                        obtain ⟨ji20, hji20⟩ : ∃ j_ : Int, (shr .u32 a1 (rd t326 x11_2)) = j_ := ⟨_, rfl⟩
                        replace H : (portreevelaw07_StuffBack.j2 k2 l0 a1 l2 t325 t326 t329 t330 x11_2 ((Int.tmod (ji20) 2) == 1)) = some r := by first | (rw [hji20] at H; exact H) | (simp only [hji20] at H ⊢; exact H)
                        have hji20_ : (a1 / 2 ^ min (rd t326 x11_2).toNat 32) = ji20 := hji20
                        have hji20z : (rd t326 x11_2) ≤ 32 → (a1 / 2 ^ (rd t326 x11_2).toNat) = ji20 := shr_small hji20
                        have H' := Aside0.mk H
                        clear H
                        have p333 : 0 ≤ (x11_2 : Int) := of_decide_eq_true (by first | (with_reducible assumption) | assumption)
                        have q333 : x11_2 < (t326.length : Int) := of_decide_eq_true (by first | (with_reducible assumption) | assumption)
                        obtain ⟨ad333, e333, hx333_0⟩ := Kd.at_int (Kd.R_reads' HO_8.out).2.2 x11_2 p333 q333
                        cases e333
                        replace p333 := eq_true p333
                        replace q333 := eq_true q333
                        have p334 : 0 ≤ (x11_2 : Int) := of_decide_eq_true (by first | (with_reducible assumption) | assumption)
                        have q334 : x11_2 < (t326.length : Int) := of_decide_eq_true (by first | (with_reducible assumption) | assumption)
                        obtain ⟨ad334, e334, hx334_0⟩ := Kd.at_int (Kd.R_reads' HO_8.out).2.2 x11_2 p334 q334
                        obtain rfl : ad333 = ad334 := (by injection e334)
                        replace p334 := eq_true p334
                        replace q334 := eq_true q334
                        have p335 : 0 ≤ (x11_2 : Int) := of_decide_eq_true (by first | (with_reducible assumption) | assumption)
                        have q335 : x11_2 < (t326.length : Int) := of_decide_eq_true (by first | (with_reducible assumption) | assumption)
                        obtain ⟨ad335, e335, hx335_0⟩ := Kd.at_int (Kd.R_reads' HO_8.out).2.2 x11_2 p335 q335
                        obtain rfl : ad333 = ad335 := (by injection e335)
                        replace p335 := eq_true p335
                        replace q335 := eq_true q335
                        go_wp2
                        go_meet
                        case rel => exact ⟨_, (((Int.tmod (ji20) 2) == 1)), (by first | rfl | (simp; done) | (simp only [← hji20] <;> (first | rfl | simp)) | (simp [*]; done)), H', ⟨by have := HJ4.out; have := HK2.out; first | omega | exact Nat.le_refl _⟩, ⟨by (with_reducible repeat (first | apply Kd.R_alloc | apply Kd.R_drewN | apply Kd.R_drew)); exact HO_8.out⟩, ⟨by (with_reducible repeat (first | apply Kd.R_alloc | apply Kd.R_drewN | apply Kd.R_drew)); exact HO_9.out⟩, ⟨by repeat (first | (with_reducible first | exact HB.out | apply pA | apply pN | apply pD) | exact HB.out)⟩⟩
                      · rw [if_neg c19] at H
                        exact absurd H (by simp)
                    · rw [if_neg c18] at H
                      have c18b0 : decide ((rd t326 x11_2) < 32) = false := decide_eq_false c18
                      clear c18
                      have H' := Aside0.mk H
                      clear H
                      have p333 : 0 ≤ (x11_2 : Int) := of_decide_eq_true (by first | (with_reducible assumption) | assumption)
                      have q333 : x11_2 < (t326.length : Int) := of_decide_eq_true (by first | (with_reducible assumption) | assumption)
                      obtain ⟨ad333, e333, hx333_0⟩ := Kd.at_int (Kd.R_reads' HO_8.out).2.2 x11_2 p333 q333
                      cases e333
                      replace p333 := eq_true p333
                      replace q333 := eq_true q333
                      have p334 : 0 ≤ (x11_2 : Int) := of_decide_eq_true (by first | (with_reducible assumption) | assumption)
                      have q334 : x11_2 < (t326.length : Int) := of_decide_eq_true (by first | (with_reducible assumption) | assumption)
                      obtain ⟨ad334, e334, hx334_0⟩ := Kd.at_int (Kd.R_reads' HO_8.out).2.2 x11_2 p334 q334
                      obtain rfl : ad333 = ad334 := (by injection e334)
                      replace p334 := eq_true p334
                      replace q334 := eq_true q334
                      go_wp2
                      go_meet
                      case rel => exact ⟨_, (false), (by first | rfl | (simp; done) | (simp [*]; done)), H', ⟨by have := HJ4.out; have := HK2.out; first | omega | exact Nat.le_refl _⟩, ⟨by (with_reducible repeat (first | apply Kd.R_alloc | apply Kd.R_drewN | apply Kd.R_drew)); exact HO_8.out⟩, ⟨by (with_reducible repeat (first | apply Kd.R_alloc | apply Kd.R_drewN | apply Kd.R_drew)); exact HO_9.out⟩, ⟨by repeat (first | (with_reducible first | exact HB.out | apply pA | apply pN | apply pD) | exact HB.out)⟩⟩
                · rw [if_neg c16] at H
                  exact absurd H (by simp)
              case rest =>
                clear HC15
                try clear c1
                try clear c2
                try clear p2
                try clear p3
                try clear q3
                try clear hx3
                try clear c5
                try clear c7
                try clear c7b0
                try clear c7b1
                try clear c8
                try clear c10
                try clear c11
                try clear c14
                try clear c14b0
                try clear c16
                try clear c16b0
                try clear c17
                try clear c17b0
                try clear c17b1
                try clear c18
                try clear c18b0
                try clear c19
                try clear c19b0
                try clear c19b1
                try clear hx333_0
                try clear hx334_0
                try clear hx335_0
                try clear p2
                try clear p333
                try clear p334
                try clear p335
                try clear q333
                try clear q334
                try clear q335
                obtain ⟨kq, x59_14, rfl, HA, HJ14, HO_8, HO_9, HB⟩ := hcut
                cases kq with
                | zero => exact absurd HA.out (by simp [portreevelaw07_StuffBack.j2])
                | succ kj14 =>
                  have H := HA.out
                  clear HA
                  simp only [portreevelaw07_StuffBack.j2] at H
                  by_cases c21 : x59_14 = true
                  · subst c21
                    have H1 : (some false) = some r := by rw [if_pos rfl] at H; exact H
                    clear H
                    have H := H1
                    clear H1
                    exact absurd ((Option.some.inj H).trans hlaw_.out) (by decide)
                  · replace c21 := Bool.eq_false_iff.mpr c21
                    subst c21
                    have H1 : (portreevelaw07_StuffBack.l0 kj14 l0 a1 l2 t325 t326 t329 t330 (wrap64 (x11_2 + 1))) = some r := by rw [if_neg (show ¬ (false = true) by decide)] at H; exact H
                    clear H
                    have H := H1
                    clear H1
                    have H' := Aside0.mk H
                    clear H
                    go_wp2
                    go_roundg kj14
                    case measure => have := HJ4.out; have := HK2.out; have := HJ14.out; omega
                    case rel => exact ⟨(wrap64 (x11_2 + 1)), (by first | rfl | (simp; done) | (simp [*]; done)), H', ⟨by have := HJ4.out; have := HK2.out; have := HJ14.out; omega⟩, ⟨by (with_reducible repeat (first | apply Kd.R_alloc | apply Kd.R_drewN | apply Kd.R_drew)); exact HO_8.out⟩, ⟨by (with_reducible repeat (first | apply Kd.R_alloc | apply Kd.R_drewN | apply Kd.R_drew)); exact HO_9.out⟩, ⟨by repeat (first | (with_reducible first | exact HB.out | apply pA | apply pN | apply pD) | exact HB.out)⟩⟩
            · rw [if_neg c14] at H
              have c14b0 : decide (x11_2 < (t326.length : Int)) = false := decide_eq_false c14
              clear c14
              have HC22 := Aside0.mk H
              clear H
              go_upto_region 11 with (fail)
              go_cut [67] (fun v67 wc => ∃ (kq : Nat) (x67_21 : Bool), v67 = .bool x67_21 ∧ Aside0 (portreevelaw07_StuffBack.j3 kq l0 a1 l2 t325 x67_21 = some r) ∧ Aside0 (kq ≤ k2) ∧ Aside0 (Below w.heap.size w wc))
              case first =>
                have H := HC22.out
                clear HC22
                by_cases c23 : t330 = 0
                · rw [if_pos c23] at H
                  have c23b0 : (t330 == 0) = true := beq_iff_eq.mpr c23
                  have c23b1 : (t330 != 0) = false := bne_eq_false_iff_eq.mpr c23
                  clear c23
                  (first | rw [c23b0] | (simp only [i64_w, i32_w]; rw [c23b0]) | skip)
                  replace H := Option.bind_eq_some_iff.mp H
                  obtain ⟨t336, A240, H⟩ := H
                  replace H : (portreevelaw07_StuffBack.j3 k2 l0 a1 l2 t325 (!t336)) = some r := H
                  have A24 := Aside0.mk A240
                  clear A240
                  have H' := Aside0.mk H
                  clear H
                  obtain ⟨Ao25, co25, eo25⟩ := Kd.R_slice HO_9.out
                  subst eo25
                  go_wp2_with (first | (go_at_call 13; (with_reducible refine (portreeveref01_Row.calls k2 _ _ t329 _ _ l0 t336 _ ?side1 ?side2 ?side3 ?side4 A24.out).mono ?_); (case side1 => repeat (first | exact (Kd.R_reads' HO_9.out).2.2 | (with_reducible refine Kd.C_alloc ?_ _) | (with_reducible refine Kd.C_drewN ?_ _) | (with_reducible refine Kd.C_drew ?_))); (case side2 => exact (Kd.R_reads' HO_9.out).2.1); (case side3 => repeat (first | exact (Kd.C_below HR0.out HB.out) | (with_reducible refine Kd.C_alloc ?_ _) | (with_reducible refine Kd.C_drewN ?_ _) | (with_reducible refine Kd.C_drew ?_))); (case side4 => exact HC0.out); rintro e w' ⟨rfl, ⟨nd, rfl⟩⟩))
                  go_meet
                  case rel => exact ⟨_, (!t336), (by first | rfl | (simp; done) | (simp [*]; done)), H', ⟨by have := HJ4.out; have := HK2.out; first | omega | exact Nat.le_refl _⟩, ⟨by repeat (first | (with_reducible first | exact HB.out | apply pA | apply pN | apply pD) | exact HB.out)⟩⟩
                · rw [if_neg c23] at H
                  have c23b0 : (t330 == 0) = false := beq_eq_false_iff_ne.mpr c23
                  have c23b1 : (t330 != 0) = true := bne_iff_ne.mpr c23
                  (first | rw [c23b0] | (simp only [i64_w, i32_w]; rw [c23b0]) | skip)
                  have H' := Aside0.mk H
                  clear H
                  go_wp2
                  go_meet
                  case rel => exact ⟨_, (true), (by first | rfl | (simp; done) | (simp [*]; done)), H', ⟨by have := HJ4.out; have := HK2.out; first | omega | exact Nat.le_refl _⟩, ⟨by repeat (first | (with_reducible first | exact HB.out | apply pA | apply pN | apply pD) | exact HB.out)⟩⟩
              case rest =>
                clear HC22
                try clear c1
                try clear c2
                try clear p2
                try clear p3
                try clear q3
                try clear hx3
                try clear c5
                try clear p6
                try clear c7
                try clear c7b0
                try clear c7b1
                try clear c8
                try clear c10
                try clear c11
                try clear c14
                try clear c14b0
                try clear c16
                try clear c16b0
                try clear c17
                try clear c17b0
                try clear c17b1
                try clear c18
                try clear c18b0
                try clear c19
                try clear c19b0
                try clear c19b1
                try clear c21
                try clear c23
                try clear c23b0
                try clear c23b1
                try clear hx333_0
                try clear hx334_0
                try clear hx335_0
                try clear p2
                try clear p3
                try clear p333
                try clear p334
                try clear p335
                try clear q3
                try clear q333
                try clear q334
                try clear q335
                obtain ⟨kq, x67_21, rfl, HA, HJ21, HB⟩ := hcut
                cases kq with
                | zero => exact absurd HA.out (by simp [portreevelaw07_StuffBack.j3])
                | succ kj21 =>
                  have H := HA.out
                  clear HA
                  simp only [portreevelaw07_StuffBack.j3] at H
                  by_cases c26 : x67_21 = true
                  · subst c26
                    have H1 : (some false) = some r := by rw [if_pos rfl] at H; exact H
                    clear H
                    have H := H1
                    clear H1
                    exact absurd ((Option.some.inj H).trans hlaw_.out) (by decide)
                  · replace c26 := Bool.eq_false_iff.mpr c26
                    subst c26
                    have H1 : ((stuff_Send.f kj21 l0 a1).bind fun t337 => ((stuff_All.f kj21 t337).bind fun t340 => (if (l0.length : Int) = 0 then (if t325 = true then (some ((t340.length : Int) == 0)) else (some false)) else ((some (([] : List Int) : List Int)).bind fun y343 => (if y343.length + l2.length < 140737488355328 then ((some (y343 ++ l2 : List Int)).bind fun y346 => ((stuff_Send.f kj21 l0 a1).bind fun t349 => (if y346.length + t349.length < 140737488355328 then ((stuff_All.f kj21 (y346 ++ t349)).bind fun t355 => (if t325 = true then (if (t340.length : Int) = 1 then (if 0 < (t340.length : Int) then ((portreeveref01_Row.f kj21 (rd_L2 t340 0) l0).bind fun t359 => (if t359 = true then (if (t355.length : Int) ≥ 1 then (if 0 ≤ (wrap64 ((t355.length : Int) - 1)) then (if (wrap64 ((t355.length : Int) - 1)) < (t355.length : Int) then ((portreeveref01_Row.f kj21 (rd_L2 t355 (wrap64 ((t355.length : Int) - 1))) l0).bind fun t361 => (some t361)) else (none)) else (none)) else (some false)) else (some false))) else (none)) else (some false)) else (some false))) else (none)))) else (none)))))) = some r := by rw [if_neg (show ¬ (false = true) by decide)] at H; exact H
                    clear H
                    have H := H1
                    clear H1
                    replace H := Option.bind_eq_some_iff.mp H
                    obtain ⟨t337, A270, H⟩ := H
                    replace H : ((stuff_All.f kj21 t337).bind fun t340 => (if (l0.length : Int) = 0 then (if t325 = true then (some ((t340.length : Int) == 0)) else (some false)) else ((some (([] : List Int) : List Int)).bind fun y343 => (if y343.length + l2.length < 140737488355328 then ((some (y343 ++ l2 : List Int)).bind fun y346 => ((stuff_Send.f kj21 l0 a1).bind fun t349 => (if y346.length + t349.length < 140737488355328 then ((stuff_All.f kj21 (y346 ++ t349)).bind fun t355 => (if t325 = true then (if (t340.length : Int) = 1 then (if 0 < (t340.length : Int) then ((portreeveref01_Row.f kj21 (rd_L2 t340 0) l0).bind fun t359 => (if t359 = true then (if (t355.length : Int) ≥ 1 then (if 0 ≤ (wrap64 ((t355.length : Int) - 1)) then (if (wrap64 ((t355.length : Int) - 1)) < (t355.length : Int) then ((portreeveref01_Row.f kj21 (rd_L2 t355 (wrap64 ((t355.length : Int) - 1))) l0).bind fun t361 => (some t361)) else (none)) else (none)) else (some false)) else (some false))) else (none)) else (some false)) else (some false))) else (none)))) else (none))))) = some r := H
                    have A27 := Aside0.mk A270
                    clear A270
                    replace H := Option.bind_eq_some_iff.mp H
                    obtain ⟨t340, A280, H⟩ := H
                    replace H : (if (l0.length : Int) = 0 then (if t325 = true then (some ((t340.length : Int) == 0)) else (some false)) else ((some (([] : List Int) : List Int)).bind fun y343 => (if y343.length + l2.length < 140737488355328 then ((some (y343 ++ l2 : List Int)).bind fun y346 => ((stuff_Send.f kj21 l0 a1).bind fun t349 => (if y346.length + t349.length < 140737488355328 then ((stuff_All.f kj21 (y346 ++ t349)).bind fun t355 => (if t325 = true then (if (t340.length : Int) = 1 then (if 0 < (t340.length : Int) then ((portreeveref01_Row.f kj21 (rd_L2 t340 0) l0).bind fun t359 => (if t359 = true then (if (t355.length : Int) ≥ 1 then (if 0 ≤ (wrap64 ((t355.length : Int) - 1)) then (if (wrap64 ((t355.length : Int) - 1)) < (t355.length : Int) then ((portreeveref01_Row.f kj21 (rd_L2 t355 (wrap64 ((t355.length : Int) - 1))) l0).bind fun t361 => (some t361)) else (none)) else (none)) else (some false)) else (some false))) else (none)) else (some false)) else (some false))) else (none)))) else (none)))) = some r := H
                    have A28 := Aside0.mk A280
                    clear A280
                    by_cases c29 : (l0.length : Int) = 0
                    · rw [if_pos c29] at H
                      have c29b0 : ((l0.length : Int) == 0) = true := beq_iff_eq.mpr c29
                      have c29b1 : ((l0.length : Int) != 0) = false := bne_eq_false_iff_eq.mpr c29
                      clear c29
                      by_cases c30 : t325 = true
                      · subst c30
                        have H1 : (some ((t340.length : Int) == 0)) = some r := by rw [if_pos rfl] at H; exact H
                        clear H
                        have H := H1
                        clear H1
                        clear hlaw_
                        obtain rfl := Option.some.inj H
                        go_wp2_with (first | ((with_reducible refine gate_callee (f := 16) rfl ?_); refine goesL_ (some 70) rfl rfl Try.func16 (by kernel_rfl) rfl #[.slice A0 l0.length c0, .int .u32 a1] rfl (by (try simp only [List.map_toArray, List.map_cons, List.map_nil]); first | done | rfl | (simp only [List.length_drop, List.length_take]; rfl)) ?_; (with_reducible refine (stuff_Send.calls kj21 _ _ l0 a1 t337 _ ?side1 ?side2 A27.out).mono ?_); (case side1 => repeat (first | exact (Kd.C_below HR0.out HB.out) | (with_reducible refine Kd.C_alloc ?_ _) | (with_reducible refine Kd.C_drewN ?_ _) | (with_reducible refine Kd.C_drew ?_))); (case side2 => exact HC0.out); rintro e w31 ⟨v338, rfl, ho0, hb⟩; refine ⟨_, rfl, ?_⟩; have n0_ := Aside0.mk (Kd.R_lower ho0 (below_size (by repeat (first | (with_reducible first | exact HB.out | apply pA | apply pN | apply pD) | exact HB.out)))); have n1_ := Aside0.mk (below_step (by repeat (first | (with_reducible first | exact HB.out | apply pA | apply pN | apply pD) | exact HB.out)) hb); clear HB; have HO339 := n0_; have HB := n1_; clear n0_ n1_; (try clear hb); (try clear hb2); (try clear hk); (try clear hi); (try clear ho0); obtain ⟨Ao32, co32, eo32⟩ := Kd.R_slice HO339.out; subst eo32) | ((with_reducible refine gate_callee (f := 19) rfl ?_); refine goesL_ (some 71) rfl rfl Try.func19 (by kernel_rfl) rfl #[.slice Ao32 t337.length co32] rfl (by (try simp only [List.map_toArray, List.map_cons, List.map_nil]); first | done | rfl | (simp only [List.length_drop, List.length_take]; rfl)) ?_; (with_reducible refine (stuff_All.calls kj21 _ _ t337 t340 _ ?side1 ?side2 A28.out).mono ?_); (case side1 => repeat (first | exact (Kd.R_reads' HO339.out).2.2 | (with_reducible refine Kd.C_alloc ?_ _) | (with_reducible refine Kd.C_drewN ?_ _) | (with_reducible refine Kd.C_drew ?_))); (case side2 => exact (Kd.R_reads' HO339.out).2.1); rintro e w33 ⟨v341, rfl, ho0, hb⟩; refine ⟨_, rfl, ?_⟩; have n0_ := Aside0.mk (Kd.R_below (by (with_reducible repeat (first | apply Kd.R_alloc | apply Kd.R_drewN | apply Kd.R_drew)); exact HO339.out) hb); have n1_ := Aside0.mk (Kd.S_lower (Kd.S_new' ho0 (Kd.R_lt (by (with_reducible repeat (first | apply Kd.R_alloc | apply Kd.R_drewN | apply Kd.R_drew)); exact HO339.out))) (below_size (by repeat (first | (with_reducible first | exact HB.out | apply pA | apply pN | apply pD) | exact HB.out)))); have n2_ := Aside0.mk (below_step (by repeat (first | (with_reducible first | exact HB.out | apply pA | apply pN | apply pD) | exact HB.out)) hb); clear HO339; clear HB; have HO339 := n0_; have HO342 := n1_; have HB := n2_; clear n0_ n1_ n2_; (try clear hb); (try clear hb2); (try clear hk); (try clear hi); (try clear ho0); obtain ⟨Ao34, co34, eo34⟩ := Kd.S_slice HO342.out; subst eo34))
                        go_ret
                        exact ⟨by first | rfl | (simp [errW_none, errW_some] <;> rfl) | (simp [*, errW_none, errW_some] <;> rfl), by repeat (first | (with_reducible first | exact HB.out | apply pA | apply pN | apply pD) | exact HB.out)⟩
                      · replace c30 := Bool.eq_false_iff.mpr c30
                        subst c30
                        have H1 : (some false) = some r := by rw [if_neg (show ¬ (false = true) by decide)] at H; exact H
                        clear H
                        have H := H1
                        clear H1
                        exact absurd ((Option.some.inj H).trans hlaw_.out) (by decide)
                    · rw [if_neg c29] at H
                      have c29b0 : ((l0.length : Int) == 0) = false := beq_eq_false_iff_ne.mpr c29
                      have c29b1 : ((l0.length : Int) != 0) = true := bne_iff_ne.mpr c29
                      have c29b2 : ¬ (l0 = []) := fun h_ => c29 (by rw [h_]; rfl)
                      obtain ⟨y343, hy343⟩ : ∃ y_ : List Int, y_ = (([] : List Int)) := ⟨_, rfl⟩
                      replace H : (if y343.length + l2.length < 140737488355328 then ((some (y343 ++ l2 : List Int)).bind fun y346 => ((stuff_Send.f kj21 l0 a1).bind fun t349 => (if y346.length + t349.length < 140737488355328 then ((stuff_All.f kj21 (y346 ++ t349)).bind fun t355 => (if t325 = true then (if (t340.length : Int) = 1 then (if 0 < (t340.length : Int) then ((portreeveref01_Row.f kj21 (rd_L2 t340 0) l0).bind fun t359 => (if t359 = true then (if (t355.length : Int) ≥ 1 then (if 0 ≤ (wrap64 ((t355.length : Int) - 1)) then (if (wrap64 ((t355.length : Int) - 1)) < (t355.length : Int) then ((portreeveref01_Row.f kj21 (rd_L2 t355 (wrap64 ((t355.length : Int) - 1))) l0).bind fun t361 => (some t361)) else (none)) else (none)) else (some false)) else (some false))) else (none)) else (some false)) else (some false))) else (none)))) else (none)) = some r := by first | (rw [hy343]; with_reducible exact H) | (have H2_ := (Option.bind_some _ _).symm.trans H; rw [hy343]; with_reducible exact H2_) | (have H2_ := (Option.bind_some _ _).symm.trans H; with_reducible exact H2_) | with_reducible exact H | (rw [hy343]; exact H) | exact H
                      have Ny343 := Aside0.mk hy343
                      clear hy343
                      by_cases c35 : y343.length + l2.length < 140737488355328
                      · rw [if_pos c35] at H
                        have LMc35 := Aside0.mk c35
                        clear c35
                        obtain ⟨y346, hy346⟩ : ∃ y_ : List Int, y_ = (y343 ++ l2) := ⟨_, rfl⟩
                        replace H : ((stuff_Send.f kj21 l0 a1).bind fun t349 => (if y346.length + t349.length < 140737488355328 then ((stuff_All.f kj21 (y346 ++ t349)).bind fun t355 => (if t325 = true then (if (t340.length : Int) = 1 then (if 0 < (t340.length : Int) then ((portreeveref01_Row.f kj21 (rd_L2 t340 0) l0).bind fun t359 => (if t359 = true then (if (t355.length : Int) ≥ 1 then (if 0 ≤ (wrap64 ((t355.length : Int) - 1)) then (if (wrap64 ((t355.length : Int) - 1)) < (t355.length : Int) then ((portreeveref01_Row.f kj21 (rd_L2 t355 (wrap64 ((t355.length : Int) - 1))) l0).bind fun t361 => (some t361)) else (none)) else (none)) else (some false)) else (some false))) else (none)) else (some false)) else (some false))) else (none))) = some r := by first | (rw [hy346]; with_reducible exact H) | (have H2_ := (Option.bind_some _ _).symm.trans H; rw [hy346]; with_reducible exact H2_) | (have H2_ := (Option.bind_some _ _).symm.trans H; with_reducible exact H2_) | with_reducible exact H | (rw [hy346]; exact H) | exact H
                        have Ny346 := Aside0.mk hy346
                        clear hy346
                        replace H := Option.bind_eq_some_iff.mp H
                        obtain ⟨t349, A360, H⟩ := H
                        replace H : (if y346.length + t349.length < 140737488355328 then ((stuff_All.f kj21 (y346 ++ t349)).bind fun t355 => (if t325 = true then (if (t340.length : Int) = 1 then (if 0 < (t340.length : Int) then ((portreeveref01_Row.f kj21 (rd_L2 t340 0) l0).bind fun t359 => (if t359 = true then (if (t355.length : Int) ≥ 1 then (if 0 ≤ (wrap64 ((t355.length : Int) - 1)) then (if (wrap64 ((t355.length : Int) - 1)) < (t355.length : Int) then ((portreeveref01_Row.f kj21 (rd_L2 t355 (wrap64 ((t355.length : Int) - 1))) l0).bind fun t361 => (some t361)) else (none)) else (none)) else (some false)) else (some false))) else (none)) else (some false)) else (some false))) else (none)) = some r := H
                        have A36 := Aside0.mk A360
                        clear A360
                        by_cases c37 : y346.length + t349.length < 140737488355328
                        · rw [if_pos c37] at H
                          have LMc37 := Aside0.mk c37
                          clear c37
                          obtain ⟨y352, hy352⟩ : ∃ y_ : List Int, y_ = (y346 ++ t349) := ⟨_, rfl⟩
                          replace H : ((stuff_All.f kj21 y352).bind fun t355 => (if t325 = true then (if (t340.length : Int) = 1 then (if 0 < (t340.length : Int) then ((portreeveref01_Row.f kj21 (rd_L2 t340 0) l0).bind fun t359 => (if t359 = true then (if (t355.length : Int) ≥ 1 then (if 0 ≤ (wrap64 ((t355.length : Int) - 1)) then (if (wrap64 ((t355.length : Int) - 1)) < (t355.length : Int) then ((portreeveref01_Row.f kj21 (rd_L2 t355 (wrap64 ((t355.length : Int) - 1))) l0).bind fun t361 => (some t361)) else (none)) else (none)) else (some false)) else (some false))) else (none)) else (some false)) else (some false))) = some r := by first | (rw [hy352]; with_reducible exact H) | (have H2_ := (Option.bind_some _ _).symm.trans H; rw [hy352]; with_reducible exact H2_) | (have H2_ := (Option.bind_some _ _).symm.trans H; with_reducible exact H2_) | with_reducible exact H | (rw [hy352]; exact H) | exact H
                          have Ny352 := Aside0.mk hy352
                          clear hy352
                          replace H := Option.bind_eq_some_iff.mp H
                          obtain ⟨t355, A380, H⟩ := H
                          replace H : (if t325 = true then (if (t340.length : Int) = 1 then (if 0 < (t340.length : Int) then ((portreeveref01_Row.f kj21 (rd_L2 t340 0) l0).bind fun t359 => (if t359 = true then (if (t355.length : Int) ≥ 1 then (if 0 ≤ (wrap64 ((t355.length : Int) - 1)) then (if (wrap64 ((t355.length : Int) - 1)) < (t355.length : Int) then ((portreeveref01_Row.f kj21 (rd_L2 t355 (wrap64 ((t355.length : Int) - 1))) l0).bind fun t361 => (some t361)) else (none)) else (none)) else (some false)) else (some false))) else (none)) else (some false)) else (some false)) = some r := H
                          have A38 := Aside0.mk A380
                          clear A380
                          by_cases c39 : t325 = true
                          · subst c39
                            have H1 : (if (t340.length : Int) = 1 then (if 0 < (t340.length : Int) then ((portreeveref01_Row.f kj21 (rd_L2 t340 0) l0).bind fun t359 => (if t359 = true then (if (t355.length : Int) ≥ 1 then (if 0 ≤ (wrap64 ((t355.length : Int) - 1)) then (if (wrap64 ((t355.length : Int) - 1)) < (t355.length : Int) then ((portreeveref01_Row.f kj21 (rd_L2 t355 (wrap64 ((t355.length : Int) - 1))) l0).bind fun t361 => (some t361)) else (none)) else (none)) else (some false)) else (some false))) else (none)) else (some false)) = some r := by rw [if_pos rfl] at H; exact H
                            clear H
                            have H := H1
                            clear H1
                            by_cases c40 : (t340.length : Int) = 1
                            · rw [if_pos c40] at H
                              have c40b0 : ((t340.length : Int) == 1) = true := beq_iff_eq.mpr c40
                              have c40b1 : ((t340.length : Int) != 1) = false := bne_eq_false_iff_eq.mpr c40
                              clear c40
                              by_cases c41 : 0 < (t340.length : Int)
                              · rw [if_pos c41] at H
                                have c41b0 : decide (0 < (t340.length : Int)) = true := decide_eq_true c41
                                have c41b1 : decide (0 < t340.length) = true := decide_eq_true (by omega)
                                clear c41
                                replace H := Option.bind_eq_some_iff.mp H
                                obtain ⟨t359, A420, H⟩ := H
                                replace H : (if t359 = true then (if (t355.length : Int) ≥ 1 then (if 0 ≤ (wrap64 ((t355.length : Int) - 1)) then (if (wrap64 ((t355.length : Int) - 1)) < (t355.length : Int) then ((portreeveref01_Row.f kj21 (rd_L2 t355 (wrap64 ((t355.length : Int) - 1))) l0).bind fun t361 => (some t361)) else (none)) else (none)) else (some false)) else (some false)) = some r := H
                                have A42 := Aside0.mk A420
                                clear A420
                                by_cases c43 : t359 = true
                                · subst c43
                                  have H1 : (if (t355.length : Int) ≥ 1 then (if 0 ≤ (wrap64 ((t355.length : Int) - 1)) then (if (wrap64 ((t355.length : Int) - 1)) < (t355.length : Int) then ((portreeveref01_Row.f kj21 (rd_L2 t355 (wrap64 ((t355.length : Int) - 1))) l0).bind fun t361 => (some t361)) else (none)) else (none)) else (some false)) = some r := by rw [if_pos rfl] at H; exact H
                                  clear H
                                  have H := H1
                                  clear H1
                                  by_cases c44 : (t355.length : Int) ≥ 1
                                  · rw [if_pos c44] at H
                                    have c44b0 : decide (1 ≤ (t355.length : Int)) = true := decide_eq_true c44
                                    have c44b1 : decide (1 ≤ t355.length) = true := decide_eq_true (by omega)
                                    clear c44
                                    obtain ⟨ji45, hji45⟩ : ∃ j_ : Int, (wrap64 ((t355.length : Int) - 1)) = j_ := ⟨_, rfl⟩
                                    replace H : (if 0 ≤ (ji45) then (if (ji45) < (t355.length : Int) then ((portreeveref01_Row.f kj21 (rd_L2 t355 (ji45)) l0).bind fun t361 => (some t361)) else (none)) else (none)) = some r := by first | (rw [hji45] at H; exact H) | (simp only [hji45] at H ⊢; exact H)
                                    (try rw [hji45] at A27)
                                    (try rw [hji45] at A28)
                                    (try rw [hji45] at A36)
                                    (try rw [hji45] at A38)
                                    (try rw [hji45] at A42)
                                    have hji45w : (IntKind.i64.wrap ((t355.length : Int) - 1)) = ji45 := (i64_w _).trans hji45
                                    by_cases c46 : 0 ≤ (ji45)
                                    · rw [if_pos c46] at H
                                      have c46b0 : decide (0 ≤ (ji45)) = true := decide_eq_true c46
                                      clear c46
                                      by_cases c47 : (ji45) < (t355.length : Int)
                                      · rw [if_pos c47] at H
                                        have c47b0 : decide ((ji45) < (t355.length : Int)) = true := decide_eq_true c47
                                        clear c47
                                        replace H := Option.bind_eq_some_iff.mp H
                                        obtain ⟨t361, A480, H⟩ := H
                                        replace H : (some t361) = some r := H
                                        have A48 := Aside0.mk A480
                                        clear A480
                                        clear hlaw_
                                        obtain rfl := Option.some.inj H
                                        go_wp2_with (first | ((with_reducible refine gate_callee (f := 16) rfl ?_); refine goesL_ (some 70) rfl rfl Try.func16 (by kernel_rfl) rfl #[.slice A0 l0.length c0, .int .u32 a1] rfl (by (try simp only [List.map_toArray, List.map_cons, List.map_nil]); first | done | rfl | (simp only [List.length_drop, List.length_take]; rfl)) ?_; (with_reducible refine (stuff_Send.calls kj21 _ _ l0 a1 t337 _ ?side1 ?side2 A27.out).mono ?_); (case side1 => repeat (first | exact (Kd.C_below HR0.out HB.out) | (with_reducible refine Kd.C_alloc ?_ _) | (with_reducible refine Kd.C_drewN ?_ _) | (with_reducible refine Kd.C_drew ?_))); (case side2 => exact HC0.out); rintro e w49 ⟨v338, rfl, ho0, hb⟩; refine ⟨_, rfl, ?_⟩; have n0_ := Aside0.mk (Kd.R_lower ho0 (below_size (by repeat (first | (with_reducible first | exact HB.out | apply pA | apply pN | apply pD) | exact HB.out)))); have n1_ := Aside0.mk (below_step (by repeat (first | (with_reducible first | exact HB.out | apply pA | apply pN | apply pD) | exact HB.out)) hb); clear HB; have HO339 := n0_; have HB := n1_; clear n0_ n1_; (try clear hb); (try clear hb2); (try clear hk); (try clear hi); (try clear ho0); obtain ⟨Ao50, co50, eo50⟩ := Kd.R_slice HO339.out; subst eo50) | ((with_reducible refine gate_callee (f := 19) rfl ?_); refine goesL_ (some 71) rfl rfl Try.func19 (by kernel_rfl) rfl #[.slice Ao50 t337.length co50] rfl (by (try simp only [List.map_toArray, List.map_cons, List.map_nil]); first | done | rfl | (simp only [List.length_drop, List.length_take]; rfl)) ?_; (with_reducible refine (stuff_All.calls kj21 _ _ t337 t340 _ ?side1 ?side2 A28.out).mono ?_); (case side1 => repeat (first | exact (Kd.R_reads' HO339.out).2.2 | (with_reducible refine Kd.C_alloc ?_ _) | (with_reducible refine Kd.C_drewN ?_ _) | (with_reducible refine Kd.C_drew ?_))); (case side2 => exact (Kd.R_reads' HO339.out).2.1); rintro e w51 ⟨v341, rfl, ho0, hb⟩; refine ⟨_, rfl, ?_⟩; have n0_ := Aside0.mk (Kd.R_below (by (with_reducible repeat (first | apply Kd.R_alloc | apply Kd.R_drewN | apply Kd.R_drew)); exact HO339.out) hb); have n1_ := Aside0.mk (Kd.S_lower (Kd.S_new' ho0 (Kd.R_lt (by (with_reducible repeat (first | apply Kd.R_alloc | apply Kd.R_drewN | apply Kd.R_drew)); exact HO339.out))) (below_size (by repeat (first | (with_reducible first | exact HB.out | apply pA | apply pN | apply pD) | exact HB.out)))); have n2_ := Aside0.mk (below_step (by repeat (first | (with_reducible first | exact HB.out | apply pA | apply pN | apply pD) | exact HB.out)) hb); clear HO339; clear HB; have HO339 := n0_; have HO342 := n1_; have HB := n2_; clear n0_ n1_ n2_; (try clear hb); (try clear hb2); (try clear hk); (try clear hi); (try clear ho0)) | ((with_reducible refine gate_dst (N := 81) rfl ?_); (try (refine gate_guard (by rfl) ?_; dsimp only)); refine Kd.R_lit (Kd.int .u8) _ 5 ?hg (N := 81) ?hd (xs := ([] : List Int)) (inner := []) (ok := fun _ => True) (okp := fun _ => True) ?hr ?hp (fun _ hk => hk) trivial (Below.refl _ _) (Nat.le_refl _) (by simp) ?_; (case hd => rfl); (case hg => rfl); (case hr => first | (go_simp; done) | (go_simp; rfl)); (case hp => exact (Reps.none _ _)); intro v344 w52 ho53 hb hg_ hnew_; clear hg_ hnew_; (first | rw [← Ny343.out] at ho53 | (simp only [Int.reduceToNat] at ho53; rw [← Ny343.out] at ho53)); have n0_ := Aside0.mk (Kd.R_elder' (by (with_reducible repeat (first | apply Kd.R_alloc | apply Kd.R_drewN | apply Kd.R_drew)); exact HO339.out) (Kd.R_base ho53) hb); have n1_ := Aside0.mk (Kd.S_elder' (by (with_reducible repeat (first | apply Kd.S_alloc | apply Kd.S_drewN | apply Kd.S_drew)); exact HO342.out) (Kd.R_base ho53) hb); have n2_ := Aside0.mk (Kd.R_lower (Kd.R_new' ho53 (Kd.R_lt (by (with_reducible repeat (first | apply Kd.R_alloc | apply Kd.R_drewN | apply Kd.R_drew)); exact HO339.out))) (below_size (by repeat (first | (with_reducible first | exact HB.out | apply pA | apply pN | apply pD) | exact HB.out)))); have n3_ := Aside0.mk (below_step (by repeat (first | (with_reducible first | exact HB.out | apply pA | apply pN | apply pD) | exact HB.out)) hb); clear HO339; clear HO342; clear HB; have HO339 := n0_; have HO342 := n1_; have HO345 := n2_; have HB := n3_; clear n0_ n1_ n2_ n3_; clear hb ho53) | ((with_reducible refine gate_builtin (b := .append) (xs := #[.tmp 81, .tmp 82]) rfl ?_); (try (refine gate_guard (by rfl) ?_; dsimp only)); at_builtin; refine Kd.R_append_rows (Kd.int .u8) (w0 := w) w.heap.size rfl (.tmp 81) (.tmp 82) 22 5 (.int .u8 0) 1 rfl Try.underlying22 info5 rfl (by decide) (by omega) v344 y343 l2 _ _ _ (fun k_ => some k_ ≠ (.slice Ao50 t337.length co50 : Value).ownBlock) (fun _ => False) rfl rfl ?aO ?aR (fun _ _ h => h) (fun _ h => h.elim) ?aF ?aB ?aS ?aL ?_; (case aR => repeat (first | exact (Kd.C_below HR2.out HB.out) | (with_reducible refine Kd.C_alloc ?_ _) | (with_reducible refine Kd.C_drewN ?_ _) | (with_reducible refine Kd.C_drew ?_))); (case aB => exact (by repeat (first | (with_reducible first | exact HB.out | apply pA | apply pN | apply pD) | exact HB.out))); (case aF => exact (fun k_ hk => Kd.fresh' (Kd.R_lt (by (with_reducible repeat (first | apply Kd.R_alloc | apply Kd.R_drewN | apply Kd.R_drew)); exact HO339.out)) k_ hk)); (case aO => exact (by (with_reducible repeat (first | apply Kd.R_alloc | apply Kd.R_drewN | apply Kd.R_drew)); exact Kd.R_mono HO345.out (fun _ hk => hk.2))); (case aS => exact (below_size (by repeat (first | (with_reducible first | exact HB.out | apply pA | apply pN | apply pD) | exact HB.out)))); (case aL => have := LMc35.out; omega); intro v347 w54 ho hb hg hat; rw [← Ny346.out] at ho; have n0_ := Aside0.mk (Kd.R_after (ok := (fun _ => True)) (by (with_reducible repeat (first | apply Kd.R_alloc | apply Kd.R_drewN | apply Kd.R_drew)); exact HO339.out) hg hat); have n1_ := Aside0.mk (Kd.S_after (ok := (fun k_ => some k_ ≠ (.slice Ao50 t337.length co50 : Value).ownBlock)) (by (with_reducible repeat (first | apply Kd.S_alloc | apply Kd.S_drewN | apply Kd.S_drew)); exact Kd.S_mono HO342.out (fun _ hk => ⟨hk.1.2, hk.2⟩)) hg hat); have n2_ := Aside0.mk (hb); have n3_ := Aside0.mk (ho); clear HO339; clear HO342; clear HB; clear HO345; have HO339 := n0_; have HO342 := n1_; have HB := n2_; have HO348 := n3_; clear n0_ n1_ n2_ n3_; clear ho hb hg hat) | ((with_reducible refine gate_callee (f := 16) rfl ?_); refine goesL_ (some 86) rfl rfl Try.func16 (by kernel_rfl) rfl #[.slice A0 l0.length c0, .int .u32 a1] rfl (by (try simp only [List.map_toArray, List.map_cons, List.map_nil]); first | done | rfl | (simp only [List.length_drop, List.length_take]; rfl)) ?_; (with_reducible refine (stuff_Send.calls kj21 _ _ l0 a1 t349 _ ?side1 ?side2 A36.out).mono ?_); (case side1 => repeat (first | exact (Kd.C_below HR0.out HB.out) | (with_reducible refine Kd.C_alloc ?_ _) | (with_reducible refine Kd.C_drewN ?_ _) | (with_reducible refine Kd.C_drew ?_))); (case side2 => exact HC0.out); rintro e w55 ⟨v350, rfl, ho0, hb⟩; refine ⟨_, rfl, ?_⟩; have n0_ := Aside0.mk (Kd.R_elder' (by (with_reducible repeat (first | apply Kd.R_alloc | apply Kd.R_drewN | apply Kd.R_drew)); exact HO339.out) (Kd.R_base ho0) hb); have n1_ := Aside0.mk (Kd.S_elder' (by (with_reducible repeat (first | apply Kd.S_alloc | apply Kd.S_drewN | apply Kd.S_drew)); exact HO342.out) (Kd.R_base ho0) hb); have n2_ := Aside0.mk (Kd.R_elder' (by (with_reducible repeat (first | apply Kd.R_alloc | apply Kd.R_drewN | apply Kd.R_drew)); exact HO348.out) (Kd.R_base ho0) hb); have n3_ := Aside0.mk (Kd.R_lower (Kd.R_new' (Kd.R_new' ho0 (Kd.R_lt (by (with_reducible repeat (first | apply Kd.R_alloc | apply Kd.R_drewN | apply Kd.R_drew)); exact HO339.out))) (Kd.R_lt (by (with_reducible repeat (first | apply Kd.R_alloc | apply Kd.R_drewN | apply Kd.R_drew)); exact HO348.out))) (below_size (by repeat (first | (with_reducible first | exact HB.out | apply pA | apply pN | apply pD) | exact HB.out)))); have n4_ := Aside0.mk (below_step (by repeat (first | (with_reducible first | exact HB.out | apply pA | apply pN | apply pD) | exact HB.out)) hb); clear HO339; clear HO342; clear HO348; clear HB; have HO339 := n0_; have HO342 := n1_; have HO348 := n2_; have HO351 := n3_; have HB := n4_; clear n0_ n1_ n2_ n3_ n4_; (try clear hb); (try clear hb2); (try clear hk); (try clear hi); (try clear ho0); obtain ⟨Ao57, co57, eo57⟩ := Kd.R_slice HO351.out; subst eo57) | ((with_reducible refine gate_builtin (b := .append) (xs := #[.tmp 83, .tmp 86]) rfl ?_); (try (refine gate_guard (by rfl) ?_; dsimp only)); at_builtin; refine Kd.R_append_rows (Kd.int .u8) (w0 := w) w.heap.size rfl (.tmp 83) (.tmp 86) 22 5 (.int .u8 0) 1 rfl Try.underlying22 info5 rfl (by decide) (by omega) v347 y346 t349 _ _ _ (fun k_ => some k_ ≠ (.slice Ao50 t337.length co50 : Value).ownBlock ∧ some k_ ≠ (.slice Ao57 t349.length co57 : Value).ownBlock) (fun _ => False) rfl rfl ?aO ?aR (fun _ _ h => h) (fun _ h => h.elim) ?aF ?aB ?aS ?aL ?_; (case aR => repeat (first | exact (Kd.R_reads' HO351.out).2.2 | (with_reducible refine Kd.C_alloc ?_ _) | (with_reducible refine Kd.C_drewN ?_ _) | (with_reducible refine Kd.C_drew ?_))); (case aB => exact (by repeat (first | (with_reducible first | exact HB.out | apply pA | apply pN | apply pD) | exact HB.out))); (case aF => exact (fun k_ hk => ⟨Kd.fresh' (Kd.R_lt (by (with_reducible repeat (first | apply Kd.R_alloc | apply Kd.R_drewN | apply Kd.R_drew)); exact HO339.out)) k_ hk, Kd.fresh' (Kd.R_lt (by (with_reducible repeat (first | apply Kd.R_alloc | apply Kd.R_drewN | apply Kd.R_drew)); exact HO351.out)) k_ hk⟩)); (case aO => exact (by (with_reducible repeat (first | apply Kd.R_alloc | apply Kd.R_drewN | apply Kd.R_drew)); exact HO348.out)); (case aS => exact (below_size (by repeat (first | (with_reducible first | exact HB.out | apply pA | apply pN | apply pD) | exact HB.out)))); (case aL => have := LMc37.out; omega); intro v353 w56 ho hb hg hat; rw [← Ny352.out] at ho; have n0_ := Aside0.mk (Kd.R_after (ok := (fun k_ => some k_ ≠ (.slice Ao57 t349.length co57 : Value).ownBlock)) (by (with_reducible repeat (first | apply Kd.R_alloc | apply Kd.R_drewN | apply Kd.R_drew)); exact Kd.R_mono HO339.out (fun _ hk => ⟨hk.2, hk.1.2⟩)) hg hat); have n1_ := Aside0.mk (Kd.S_after (ok := (fun k_ => some k_ ≠ (.slice Ao50 t337.length co50 : Value).ownBlock ∧ some k_ ≠ (.slice Ao57 t349.length co57 : Value).ownBlock)) (by (with_reducible repeat (first | apply Kd.S_alloc | apply Kd.S_drewN | apply Kd.S_drew)); exact Kd.S_mono HO342.out (fun _ hk => ⟨⟨hk.1.1, hk.2⟩, hk.1.2⟩)) hg hat); have n2_ := Aside0.mk (Kd.R_after (ok := (fun k_ => some k_ ≠ (.slice Ao50 t337.length co50 : Value).ownBlock)) (by (with_reducible repeat (first | apply Kd.R_alloc | apply Kd.R_drewN | apply Kd.R_drew)); exact Kd.R_mono HO351.out (fun _ hk => ⟨hk.1.2, hk.2⟩)) hg hat); have n3_ := Aside0.mk (hb); have n4_ := Aside0.mk (ho); clear HO339; clear HO342; clear HO351; clear HB; clear HO348; have HO339 := n0_; have HO342 := n1_; have HO351 := n2_; have HB := n3_; have HO354 := n4_; clear n0_ n1_ n2_ n3_ n4_; clear ho hb hg hat; obtain ⟨Ao58, co58, eo58⟩ := Kd.R_slice HO354.out; subst eo58) | ((with_reducible refine gate_callee (f := 19) rfl ?_); refine goesL_ (some 88) rfl rfl Try.func19 (by kernel_rfl) rfl #[.slice Ao58 y352.length co58] rfl (by (try simp only [List.map_toArray, List.map_cons, List.map_nil]); first | done | rfl | (simp only [List.length_drop, List.length_take]; rfl)) ?_; (with_reducible refine (stuff_All.calls kj21 _ _ y352 t355 _ ?side1 ?side2 A38.out).mono ?_); (case side1 => repeat (first | exact (Kd.R_reads' HO354.out).2.2 | (with_reducible refine Kd.C_alloc ?_ _) | (with_reducible refine Kd.C_drewN ?_ _) | (with_reducible refine Kd.C_drew ?_))); (case side2 => exact (Kd.R_reads' HO354.out).2.1); rintro e w59 ⟨v356, rfl, ho0, hb⟩; refine ⟨_, rfl, ?_⟩; have n0_ := Aside0.mk (Kd.R_below (by (with_reducible repeat (first | apply Kd.R_alloc | apply Kd.R_drewN | apply Kd.R_drew)); exact HO339.out) hb); have n1_ := Aside0.mk (Kd.S_elder' (by (with_reducible repeat (first | apply Kd.S_alloc | apply Kd.S_drewN | apply Kd.S_drew)); exact HO342.out) (Kd.S_base ho0) hb); have n2_ := Aside0.mk (Kd.R_below (by (with_reducible repeat (first | apply Kd.R_alloc | apply Kd.R_drewN | apply Kd.R_drew)); exact HO351.out) hb); have n3_ := Aside0.mk (Kd.R_below (by (with_reducible repeat (first | apply Kd.R_alloc | apply Kd.R_drewN | apply Kd.R_drew)); exact HO354.out) hb); have n4_ := Aside0.mk (Kd.S_lower (Kd.S_new' (Kd.S_new' (Kd.S_new' (Kd.S_new' ho0 (Kd.R_lt (by (with_reducible repeat (first | apply Kd.R_alloc | apply Kd.R_drewN | apply Kd.R_drew)); exact HO339.out))) (Kd.S_lt (by (with_reducible repeat (first | apply Kd.S_alloc | apply Kd.S_drewN | apply Kd.S_drew)); exact HO342.out))) (Kd.R_lt (by (with_reducible repeat (first | apply Kd.R_alloc | apply Kd.R_drewN | apply Kd.R_drew)); exact HO351.out))) (Kd.R_lt (by (with_reducible repeat (first | apply Kd.R_alloc | apply Kd.R_drewN | apply Kd.R_drew)); exact HO354.out))) (below_size (by repeat (first | (with_reducible first | exact HB.out | apply pA | apply pN | apply pD) | exact HB.out)))); have n5_ := Aside0.mk (below_step (by repeat (first | (with_reducible first | exact HB.out | apply pA | apply pN | apply pD) | exact HB.out)) hb); clear HO339; clear HO342; clear HO351; clear HO354; clear HB; have HO339 := n0_; have HO342 := n1_; have HO351 := n2_; have HO354 := n3_; have HO357 := n4_; have HB := n5_; clear n0_ n1_ n2_ n3_ n4_ n5_; (try clear hb); (try clear hb2); (try clear hk); (try clear hi); (try clear ho0); obtain ⟨Ao60, co60, eo60⟩ := Kd.S_slice HO342.out; subst eo60; have p358 : 0 ≤ (0 : Int) := (by omega); have q358 : 0 < (t340.length : Int) := of_decide_eq_true (by first | (with_reducible assumption) | assumption); obtain ⟨ad358, A358_0, c358_0, e358, hx358_0, hl358_0, hi358_0⟩ := at_L2 (Kd.S_reads' HO342.out).2.2 0 p358 q358; cases e358; obtain ⟨ce358, hce358, hMe358, hcc358⟩ := Kd.S_get HO342.out [] 0 p358 (by first | exact q358 | exact of_decide_eq_true (by first | (with_reducible assumption) | assumption) | (have e_ := (Kd.S_reads' HO342.out).1; omega)); obtain ⟨ve358_0, rfl, ge358_0⟩ := hMe358; have hv358_0 := hcc358 0 _ rfl; rw [Nat.add_zero, show ((Kd.slice 5 (Kd.int .u8))).sz = 1 from rfl, Nat.mul_one] at hv358_0; replace hv358_0 := Option.some.inj (hv358_0.symm.trans hx358_0); rw [hv358_0] at ge358_0; have HL358_0 := Aside0.mk (show Kd.R (Kd.int .u8) 5 _ _ _ _ (rd_L2 t340 0) from ge358_0); clear hv358_0 ge358_0; clear hcc358 hce358; have qi358 : (0 < t340.length) = True := eq_true (by omega); (try rw [show ((0 : Int)).toNat = 0 from rfl] at hx358_0); (try rw [Addr.add_zero'] at hx358_0); have HR358_0 := Aside0.mk hi358_0; have HC358_0 := Aside0.mk hl358_0; clear hi358_0 hl358_0; replace p358 := eq_true p358; replace q358 := eq_true q358) | (go_at_call 13; (with_reducible refine (portreeveref01_Row.calls kj21 _ _ (rd_L2 t340 0) _ _ l0 true _ ?side1 ?side2 ?side3 ?side4 A42.out).mono ?_); (case side1 => repeat (first | exact (by repeat (first | (with_reducible exact HR358_0.out) | (with_reducible refine Kd.C_alloc ?_ _) | (with_reducible refine Kd.C_drewN ?_ _) | (with_reducible refine Kd.C_drew ?_) | exact HR358_0.out)) | (with_reducible refine Kd.C_alloc ?_ _) | (with_reducible refine Kd.C_drewN ?_ _) | (with_reducible refine Kd.C_drew ?_))); (case side2 => exact HC358_0.out); (case side3 => repeat (first | exact (Kd.C_below HR0.out HB.out) | (with_reducible refine Kd.C_alloc ?_ _) | (with_reducible refine Kd.C_drewN ?_ _) | (with_reducible refine Kd.C_drew ?_))); (case side4 => exact HC0.out); rintro e w' ⟨rfl, ⟨nd, rfl⟩⟩; obtain ⟨Ao61, co61, eo61⟩ := Kd.S_slice HO357.out; subst eo61; have p360 : 0 ≤ ((ji45) : Int) := of_decide_eq_true (by first | (with_reducible assumption) | assumption); have q360 : (ji45) < (t355.length : Int) := of_decide_eq_true (by first | (with_reducible assumption) | assumption); obtain ⟨ad360, A360_0, c360_0, e360, hx360_0, hl360_0, hi360_0⟩ := at_L2 (Kd.S_reads' HO357.out).2.2 (ji45) p360 q360; cases e360; obtain ⟨ce360, hce360, hMe360, hcc360⟩ := Kd.S_get HO357.out [] (ji45) p360 (by first | exact q360 | exact of_decide_eq_true (by first | (with_reducible assumption) | assumption) | (have e_ := (Kd.S_reads' HO357.out).1; omega)); obtain ⟨ve360_0, rfl, ge360_0⟩ := hMe360; have hv360_0 := hcc360 0 _ rfl; rw [Nat.add_zero, show ((Kd.slice 5 (Kd.int .u8))).sz = 1 from rfl, Nat.mul_one] at hv360_0; replace hv360_0 := Option.some.inj (hv360_0.symm.trans hx360_0); rw [hv360_0] at ge360_0; have HL360_0 := Aside0.mk (show Kd.R (Kd.int .u8) 5 _ _ _ _ (rd_L2 t355 (ji45)) from ge360_0); clear hv360_0 ge360_0; clear hcc360 hce360; have HR360_0 := Aside0.mk hi360_0; have HC360_0 := Aside0.mk hl360_0; clear hi360_0 hl360_0; replace p360 := eq_true p360; replace q360 := eq_true q360) | (go_at_call 13; (with_reducible refine (portreeveref01_Row.calls kj21 _ _ (rd_L2 t355 (ji45)) _ _ l0 t361 _ ?side1 ?side2 ?side3 ?side4 A48.out).mono ?_); (case side1 => repeat (first | exact (by repeat (first | (with_reducible exact HR360_0.out) | (with_reducible refine Kd.C_alloc ?_ _) | (with_reducible refine Kd.C_drewN ?_ _) | (with_reducible refine Kd.C_drew ?_) | exact HR360_0.out)) | (with_reducible refine Kd.C_alloc ?_ _) | (with_reducible refine Kd.C_drewN ?_ _) | (with_reducible refine Kd.C_drew ?_))); (case side2 => exact HC360_0.out); (case side3 => repeat (first | exact (Kd.C_below HR0.out (by repeat (first | (with_reducible first | exact HB.out | apply pA | apply pN | apply pD) | exact HB.out))) | (with_reducible refine Kd.C_alloc ?_ _) | (with_reducible refine Kd.C_drewN ?_ _) | (with_reducible refine Kd.C_drew ?_))); (case side4 => exact HC0.out); rintro e w' ⟨rfl, ⟨nd, rfl⟩⟩))
                                        go_ret
                                        exact ⟨by first | rfl | (simp [errW_none, errW_some] <;> rfl) | (simp only [← hji45]; first | rfl | (simp [errW_none, errW_some] <;> rfl)) | (simp [*, errW_none, errW_some] <;> rfl), by repeat (first | (with_reducible first | exact HB.out | apply pA | apply pN | apply pD) | exact HB.out)⟩
                                      · rw [if_neg c47] at H
                                        exact absurd H (by simp)
                                    · rw [if_neg c46] at H
                                      exact absurd H (by simp)
                                  · rw [if_neg c44] at H
                                    have c44b0 : decide (1 ≤ (t355.length : Int)) = false := decide_eq_false c44
                                    have c44b1 : decide (1 ≤ t355.length) = false := decide_eq_false (by omega)
                                    clear c44
                                    exact absurd ((Option.some.inj H).trans hlaw_.out) (by decide)
                                · replace c43 := Bool.eq_false_iff.mpr c43
                                  subst c43
                                  have H1 : (some false) = some r := by rw [if_neg (show ¬ (false = true) by decide)] at H; exact H
                                  clear H
                                  have H := H1
                                  clear H1
                                  exact absurd ((Option.some.inj H).trans hlaw_.out) (by decide)
                              · rw [if_neg c41] at H
                                exact absurd H (by simp)
                            · rw [if_neg c40] at H
                              have c40b0 : ((t340.length : Int) == 1) = false := beq_eq_false_iff_ne.mpr c40
                              have c40b1 : ((t340.length : Int) != 1) = true := bne_iff_ne.mpr c40
                              exact absurd ((Option.some.inj H).trans hlaw_.out) (by decide)
                          · replace c39 := Bool.eq_false_iff.mpr c39
                            subst c39
                            have H1 : (some false) = some r := by rw [if_neg (show ¬ (false = true) by decide)] at H; exact H
                            clear H
                            have H := H1
                            clear H1
                            exact absurd ((Option.some.inj H).trans hlaw_.out) (by decide)
                        · rw [if_neg c37] at H
                          exact absurd H (by simp)
                      · rw [if_neg c35] at H
                        exact absurd H (by simp)

end Go.Proofs.Ytdmhamnnadegnaa.Q

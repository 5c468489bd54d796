-- written by this session's own program (wip/tools/myprint.py), over the kit's print
import Derived.Test.YtadgdhefgibakaaQx0
import Derived.Test.YtadgdhefgibakaaQx3
import Derived.Test.YtadgdhefgibakaaQx8
namespace Go.Proofs.Ytadgdhefgibakaa.Q
open Go.RowKit Go.Proofs.YtadgdhefgibakaaW.PrintWords Go.Proofs.YtadgdhefgibakaaW.PrintLast Go.Proofs.YtadgdhefgibakaaW.PrintMore
open Go.Proofs.YtadgdhefgibakaaV
attribute [local go_sem] max2_int min2_int max_two min_two max_three min_three max_four min_four   -- for this text's walks alone
set_option linter.unusedVariables false
set_option linter.unusedSimpArgs false

/-! ### portreeveref01_Row: function 11 -/
def portreeveref01_Row.l0 : Nat → List Int → List Int → Int → Option (Bool)
  | 0, _, _, _ => none
  | k + 1, x0, x1, x5 => if x5 < (x0.length : Int) then (if 0 ≤ x5 then (if x5 < (x1.length : Int) then (if (rd x0 x5) = (rd x1 x5) then (portreeveref01_Row.l0 k x0 x1 (wrap64 (x5 + 1))) else (some false)) else (none)) else (none)) else (some true)
def portreeveref01_Row.f (k : Nat) (l0 : List Int) (l1 : List Int) : Option (Bool) := if (l0.length : Int) = (l1.length : Int) then (portreeveref01_Row.l0 k l0 l1 0) else (some false)
theorem portreeveref01_Row.mono_l : ∀ k, (∀ y0 y1 y2, LeO (portreeveref01_Row.l0 k y0 y1 y2) (portreeveref01_Row.l0 (k + 1) y0 y1 y2))
  | 0 => fun _ _ _ r h => by simp [portreeveref01_Row.l0] at h
  | k + 1 => by
    have ih0 := portreeveref01_Row.mono_l k
    · intro y0 y1 y2
      unfold portreeveref01_Row.l0
      repeat' first
      | (with_reducible exact ih0 _ _ _)
      | (with_reducible exact LeO.refl _)
      | (with_reducible exact LeO.none _)
      | (with_reducible refine LeO.ite ?_ ?_)
      | (with_reducible refine LeO.bind ?_ (fun _ => ?_))
      | exact ih0 _ _ _
      | exact LeO.none _
      | refine LeO.ite ?_ ?_
      | refine LeO.bind ?_ (fun _ => ?_)
theorem portreeveref01_Row.mono : ∀ a0 a1 k, LeO (portreeveref01_Row.f k a0 a1) (portreeveref01_Row.f (k + 1) a0 a1) := by
  intro a0 a1 k
  have ih0 := portreeveref01_Row.mono_l k
  unfold portreeveref01_Row.f
  repeat' first
      | (with_reducible exact ih0 _ _ _)
      | (with_reducible exact LeO.refl _)
      | (with_reducible exact LeO.none _)
      | (with_reducible refine LeO.ite ?_ ?_)
      | (with_reducible refine LeO.bind ?_ (fun _ => ?_))
      | exact ih0 _ _ _
      | exact LeO.none _
      | refine LeO.ite ?_ ?_
      | refine LeO.bind ?_ (fun _ => ?_)
set_option maxHeartbeats 8000000 in
set_option maxRecDepth 100000 in
theorem portreeveref01_Row.calls (k : Nat) (A0 : Option Addr) (c0 : Nat) (l0 : List Int) (A1 : Option Addr) (c1 : Nat) (l1 : List Int) (r : Bool) (w : World) (hr0 : Kd.C (Kd.int .u8) w A0 l0.length l0) (hc0 : l0.length ≤ c0) (hr1 : Kd.C (Kd.int .u8) w A1 l1.length l1) (hc1 : l1.length ≤ c1) (h : portreeveref01_Row.f k l0 l1 = some r) :
    Calls Try.prog 11 #[.slice A0 l0.length c0, .slice A1 l1.length c1] w fun e w' => e = .returned (.bool r) ∧ Drawn0 w w' := by
  have HR0 := Aside0.mk hr0
  have HC0 := Aside0.mk hc0
  clear hr0 hc0
  have HR1 := Aside0.mk hr1
  have HC1 := Aside0.mk hc1
  clear hr1 hc1
  have H : (if (l0.length : Int) = (l1.length : Int) then (portreeveref01_Row.l0 k l0 l1 0) else (some false)) = some r := h
  clear h
  by_cases c3 : (l0.length : Int) = (l1.length : Int)
  · rw [if_pos c3] at H
    have c3b0 : ((l0.length : Int) == (l1.length : Int)) = true := beq_iff_eq.mpr c3
    have c3b1 : ((l0.length : Int) != (l1.length : Int)) = false := bne_eq_false_iff_eq.mpr c3
    have c3b2 : (l0.length == l1.length) = true := by first | simpa using c3 | (simp at c3 ⊢; omega)
    clear c3
    have H' := Aside0.mk H
    clear H
    go_enter Try.func11, Try.ntmps11
    go_wp2
    repeat (go_quiet (fail); try go_wp2)
    go_loopg [5] k (fun kq v5 w' => ∃ (x5_1 : Int), v5 = .int .i64 x5_1 ∧ Aside0 (portreeveref01_Row.l0 kq l0 l1 x5_1 = some r) ∧ Aside0 (kq ≤ k) ∧ Drawn0 w w')
    case atStart => exact ⟨(0), (by first | rfl | (simp; done) | (simp [*]; done)), H', ⟨Nat.le_refl _⟩, by repeat (first | exact Drawn0.refl _ | apply Drawn0.step)⟩
    case round =>
      clear H'
      try clear c1
      try clear p2
      try clear c3
      try clear c3b0
      try clear c3b1
      try clear c3b2
      obtain ⟨x5_1, rfl, HA, HK1, ⟨m1, rfl⟩⟩ := hrel
      cases gk with
      | zero => exact absurd HA.out (by simp [portreeveref01_Row.l0])
      | succ k1 =>
        have H := HA.out
        clear HA
        simp only [portreeveref01_Row.l0] at H
        by_cases c4 : x5_1 < (l0.length : Int)
        · rw [if_pos c4] at H
          have c4b0 : decide (x5_1 < (l0.length : Int)) = true := decide_eq_true c4
          clear c4
          by_cases c5 : 0 ≤ x5_1
          · rw [if_pos c5] at H
            have c5b0 : decide (0 ≤ x5_1) = true := decide_eq_true c5
            clear c5
            by_cases c6 : x5_1 < (l1.length : Int)
            · rw [if_pos c6] at H
              have c6b0 : decide (x5_1 < (l1.length : Int)) = true := decide_eq_true c6
              clear c6
              by_cases c7 : (rd l0 x5_1) = (rd l1 x5_1)
              · rw [if_pos c7] at H
                have c7b0 : ((rd l0 x5_1) == (rd l1 x5_1)) = true := beq_iff_eq.mpr c7
                have c7b1 : ((rd l0 x5_1) != (rd l1 x5_1)) = false := bne_eq_false_iff_eq.mpr c7
                clear c7
                have H' := Aside0.mk H
                clear H
                have p151 : 0 ≤ (x5_1 : Int) := of_decide_eq_true (by first | (with_reducible assumption) | assumption)
                have q151 : x5_1 < (l0.length : Int) := of_decide_eq_true (by first | (with_reducible assumption) | assumption)
                obtain ⟨ad151, e151, hx151_0⟩ := Kd.at_int HR0.out x5_1 p151 q151
                cases e151
                replace p151 := eq_true p151
                replace q151 := eq_true q151
                have p152 : 0 ≤ (x5_1 : Int) := of_decide_eq_true (by first | (with_reducible assumption) | assumption)
                have q152 : x5_1 < (l1.length : Int) := of_decide_eq_true (by first | (with_reducible assumption) | assumption)
                obtain ⟨ad152, e152, hx152_0⟩ := Kd.at_int HR1.out x5_1 p152 q152
                cases e152
                replace p152 := eq_true p152
                replace q152 := eq_true q152
                go_wp2
                repeat (go_quiet (fail); try go_wp2)
                go_roundg k1
                case measure => have := HK1.out; omega
                case rel => exact ⟨(wrap64 (x5_1 + 1)), (by first | rfl | (simp; done) | (simp [*]; done)), H', ⟨by have := HK1.out; omega⟩, by repeat (first | exact Drawn0.refl _ | apply Drawn0.step)⟩
              · rw [if_neg c7] at H
                have c7b0 : ((rd l0 x5_1) == (rd l1 x5_1)) = false := beq_eq_false_iff_ne.mpr c7
                have c7b1 : ((rd l0 x5_1) != (rd l1 x5_1)) = true := bne_iff_ne.mpr c7
                obtain rfl := Option.some.inj H
                have p151 : 0 ≤ (x5_1 : Int) := of_decide_eq_true (by first | (with_reducible assumption) | assumption)
                have q151 : x5_1 < (l0.length : Int) := of_decide_eq_true (by first | (with_reducible assumption) | assumption)
                obtain ⟨ad151, e151, hx151_0⟩ := Kd.at_int HR0.out x5_1 p151 q151
                cases e151
                replace p151 := eq_true p151
                replace q151 := eq_true q151
                have p152 : 0 ≤ (x5_1 : Int) := of_decide_eq_true (by first | (with_reducible assumption) | assumption)
                have q152 : x5_1 < (l1.length : Int) := of_decide_eq_true (by first | (with_reducible assumption) | assumption)
                obtain ⟨ad152, e152, hx152_0⟩ := Kd.at_int HR1.out x5_1 p152 q152
                cases e152
                replace p152 := eq_true p152
                replace q152 := eq_true q152
                go_wp2
                repeat (go_quiet (fail); try go_wp2)
                go_ret
                exact ⟨by first | rfl | (simp; done) | (simp [*]; done), by repeat (first | exact Drawn0.refl _ | apply Drawn0.step)⟩
            · rw [if_neg c6] at H
              exact absurd H (by simp)
          · rw [if_neg c5] at H
            exact absurd H (by simp)
        · rw [if_neg c4] at H
          have c4b0 : decide (x5_1 < (l0.length : Int)) = false := decide_eq_false c4
          clear c4
          obtain rfl := Option.some.inj H
          go_wp2
          repeat (go_quiet (fail); try go_wp2)
          go_ret
          exact ⟨by first | rfl | (simp; done) | (simp [*]; done), by repeat (first | exact Drawn0.refl _ | apply Drawn0.step)⟩
  · rw [if_neg c3] at H
    have c3b0 : ((l0.length : Int) == (l1.length : Int)) = false := beq_eq_false_iff_ne.mpr c3
    have c3b1 : ((l0.length : Int) != (l1.length : Int)) = true := bne_iff_ne.mpr c3
    have c3b2 : (l0.length == l1.length) = false := by first | simpa using c3 | (simp at c3 ⊢; omega)
    obtain rfl := Option.some.inj H
    go_enter Try.func11, Try.ntmps11
    go_wp2
    repeat (go_quiet (fail); try go_wp2)
    go_ret
    exact ⟨by first | rfl | (simp; done) | (simp [*]; done), by repeat (first | exact Drawn0.refl _ | apply Drawn0.step)⟩

-- NOT PRINTED: function 3 (portreevelaw02_Md5Tells)

-- NOT PRINTED: function 4 (portreevelaw02_Md5Blocks)

/-! ### portreevelaw02_Md5Pads: function 5 -/
mutual
def portreevelaw02_Md5Pads.j0 : Nat → List Int → List Int → Bool → Bool → Option (Bool)
  | 0, _, _, _, _ => none
  | k + 1, x0, x1, x5, x19 => if x19 = true then (some x5) else ((md5_Pad.f k x0).bind fun t184 => (if (wrap64 ((wrap64 ((t184.length : Int) - 9)) - (x0.length : Int))) < 0 then (portreevelaw02_Md5Pads.j1 k x0 x1 x5 t184 (wrap64 ((wrap64 ((t184.length : Int) - 9)) - (x0.length : Int))) true) else (if (wrap64 ((wrap64 ((t184.length : Int) - 9)) - (x0.length : Int))) > 63 then (portreevelaw02_Md5Pads.j1 k x0 x1 x5 t184 (wrap64 ((wrap64 ((t184.length : Int) - 9)) - (x0.length : Int))) true) else (if 0 ≤ (x0.length : Int) then (if (x0.length : Int) ≤ (t184.length : Int) then ((portreeveref01_Row.f k (t184.take ((x0.length : Int) : Int).toNat) x0).bind fun t191 => (if t191 = true then (if (x0.length : Int) < (t184.length : Int) then (portreevelaw02_Md5Pads.j1 k x0 x1 x5 t184 (wrap64 ((wrap64 ((t184.length : Int) - 9)) - (x0.length : Int))) ((rd t184 (x0.length : Int)) != 128)) else (none)) else (portreevelaw02_Md5Pads.j1 k x0 x1 x5 t184 (wrap64 ((wrap64 ((t184.length : Int) - 9)) - (x0.length : Int))) true))) else (none)) else (none)))))
def portreevelaw02_Md5Pads.j1 : Nat → List Int → List Int → Bool → List Int → Int → Bool → Option (Bool)
  | 0, _, _, _, _, _, _ => none
  | k + 1, x0, x1, x5, x6, x7, x51 => if x51 = true then (some false) else (portreevelaw02_Md5Pads.l0 k x0 x1 x5 x6 x7 0)
def portreevelaw02_Md5Pads.l0 : Nat → List Int → List Int → Bool → List Int → Int → Int → Option (Bool)
  | 0, _, _, _, _, _, _ => none
  | k + 1, x0, x1, x5, x6, x7, x8 => if x8 < x7 then (if 0 ≤ (wrap64 ((wrap64 ((x0.length : Int) + 1)) + x8)) then (if (wrap64 ((wrap64 ((x0.length : Int) + 1)) + x8)) < (x6.length : Int) then (if (rd x6 (wrap64 ((wrap64 ((x0.length : Int) + 1)) + x8))) = 0 then (portreevelaw02_Md5Pads.l0 k x0 x1 x5 x6 x7 (wrap64 (x8 + 1))) else (some false)) else (none)) else (none)) else (portreevelaw02_Md5Pads.l1 k x0 x1 x5 x6 0 7)
def portreevelaw02_Md5Pads.l1 : Nat → List Int → List Int → Bool → List Int → Int → Int → Option (Bool)
  | 0, _, _, _, _, _, _ => none
  | k + 1, x0, x1, x5, x6, x9, x10 => if x10 ≥ 0 then (if 0 ≤ (wrap64 ((wrap64 ((x6.length : Int) - 8)) + x10)) then (if (wrap64 ((wrap64 ((x6.length : Int) - 8)) + x10)) < (x6.length : Int) then (portreevelaw02_Md5Pads.l1 k x0 x1 x5 x6 (wrap64 ((wrap64 (x9 * 256)) + (wrap64 (rd x6 (wrap64 ((wrap64 ((x6.length : Int) - 8)) + x10)))))) (wrap64 (x10 - 1))) else (none)) else (none)) else (if x5 = true then (if x9 = (wrap64 (8 * (x0.length : Int))) then ((md5_Pad.f k x1).bind fun t195 => ((portreeveref01_Row.f k x6 t195).bind fun t198 => ((portreeveref01_Row.f k x0 x1).bind fun t199 => (some (t198 == t199))))) else (some false)) else (some false))
end
def portreevelaw02_Md5Pads.f (k : Nat) (l0 : List Int) (l1 : List Int) : Option (Bool) := (portreevelaw02_shown.f k).bind fun t183 => (if (l0.length : Int) > 1000 then (portreevelaw02_Md5Pads.j0 k l0 l1 t183 true) else (portreevelaw02_Md5Pads.j0 k l0 l1 t183 (decide ((l1.length : Int) > 1000))))
theorem portreevelaw02_Md5Pads.mono_l : ∀ k, (∀ y0 y1 y2 y3, LeO (portreevelaw02_Md5Pads.j0 k y0 y1 y2 y3) (portreevelaw02_Md5Pads.j0 (k + 1) y0 y1 y2 y3)) ∧ (∀ y0 y1 y2 y3 y4 y5, LeO (portreevelaw02_Md5Pads.j1 k y0 y1 y2 y3 y4 y5) (portreevelaw02_Md5Pads.j1 (k + 1) y0 y1 y2 y3 y4 y5)) ∧ (∀ y0 y1 y2 y3 y4 y5, LeO (portreevelaw02_Md5Pads.l0 k y0 y1 y2 y3 y4 y5) (portreevelaw02_Md5Pads.l0 (k + 1) y0 y1 y2 y3 y4 y5)) ∧ (∀ y0 y1 y2 y3 y4 y5, LeO (portreevelaw02_Md5Pads.l1 k y0 y1 y2 y3 y4 y5) (portreevelaw02_Md5Pads.l1 (k + 1) y0 y1 y2 y3 y4 y5))
  | 0 => ⟨fun _ _ _ _ r h => by simp [portreevelaw02_Md5Pads.j0] at h, fun _ _ _ _ _ _ r h => by simp [portreevelaw02_Md5Pads.j1] at h, fun _ _ _ _ _ _ r h => by simp [portreevelaw02_Md5Pads.l0] at h, fun _ _ _ _ _ _ r h => by simp [portreevelaw02_Md5Pads.l1] at h⟩
  | k + 1 => by
    obtain ⟨ih0, ih1, ih2, ih3⟩ := portreevelaw02_Md5Pads.mono_l k
    refine ⟨?_, ?_, ?_, ?_⟩
    · intro y0 y1 y2 y3
      unfold portreevelaw02_Md5Pads.j0
      repeat' first
      | (with_reducible exact ih0 _ _ _ _)
      | (with_reducible exact ih1 _ _ _ _ _ _)
      | (with_reducible exact ih2 _ _ _ _ _ _)
      | (with_reducible exact ih3 _ _ _ _ _ _)
      | (with_reducible exact md5_Pad.mono _ _)
      | (with_reducible exact portreevelaw02_shown.mono _)
      | (with_reducible exact portreeveref01_Row.mono _ _ _)
      | (with_reducible exact LeO.refl _)
      | (with_reducible exact LeO.none _)
      | (with_reducible refine LeO.ite ?_ ?_)
      | (with_reducible refine LeO.bind ?_ (fun _ => ?_))
      | exact ih0 _ _ _ _
      | exact ih1 _ _ _ _ _ _
      | exact ih2 _ _ _ _ _ _
      | exact ih3 _ _ _ _ _ _
      | exact md5_Pad.mono _ _
      | exact portreevelaw02_shown.mono _
      | exact portreeveref01_Row.mono _ _ _
      | exact LeO.none _
      | refine LeO.ite ?_ ?_
      | refine LeO.bind ?_ (fun _ => ?_)
    · intro y0 y1 y2 y3 y4 y5
      unfold portreevelaw02_Md5Pads.j1
      repeat' first
      | (with_reducible exact ih0 _ _ _ _)
      | (with_reducible exact ih1 _ _ _ _ _ _)
      | (with_reducible exact ih2 _ _ _ _ _ _)
      | (with_reducible exact ih3 _ _ _ _ _ _)
      | (with_reducible exact md5_Pad.mono _ _)
      | (with_reducible exact portreevelaw02_shown.mono _)
      | (with_reducible exact portreeveref01_Row.mono _ _ _)
      | (with_reducible exact LeO.refl _)
      | (with_reducible exact LeO.none _)
      | (with_reducible refine LeO.ite ?_ ?_)
      | (with_reducible refine LeO.bind ?_ (fun _ => ?_))
      | exact ih0 _ _ _ _
      | exact ih1 _ _ _ _ _ _
      | exact ih2 _ _ _ _ _ _
      | exact ih3 _ _ _ _ _ _
      | exact md5_Pad.mono _ _
      | exact portreevelaw02_shown.mono _
      | exact portreeveref01_Row.mono _ _ _
      | exact LeO.none _
      | refine LeO.ite ?_ ?_
      | refine LeO.bind ?_ (fun _ => ?_)
    · intro y0 y1 y2 y3 y4 y5
      unfold portreevelaw02_Md5Pads.l0
      repeat' first
      | (with_reducible exact ih0 _ _ _ _)
      | (with_reducible exact ih1 _ _ _ _ _ _)
      | (with_reducible exact ih2 _ _ _ _ _ _)
      | (with_reducible exact ih3 _ _ _ _ _ _)
      | (with_reducible exact md5_Pad.mono _ _)
      | (with_reducible exact portreevelaw02_shown.mono _)
      | (with_reducible exact portreeveref01_Row.mono _ _ _)
      | (with_reducible exact LeO.refl _)
      | (with_reducible exact LeO.none _)
      | (with_reducible refine LeO.ite ?_ ?_)
      | (with_reducible refine LeO.bind ?_ (fun _ => ?_))
      | exact ih0 _ _ _ _
      | exact ih1 _ _ _ _ _ _
      | exact ih2 _ _ _ _ _ _
      | exact ih3 _ _ _ _ _ _
      | exact md5_Pad.mono _ _
      | exact portreevelaw02_shown.mono _
      | exact portreeveref01_Row.mono _ _ _
      | exact LeO.none _
      | refine LeO.ite ?_ ?_
      | refine LeO.bind ?_ (fun _ => ?_)
    · intro y0 y1 y2 y3 y4 y5
      unfold portreevelaw02_Md5Pads.l1
      repeat' first
      | (with_reducible exact ih0 _ _ _ _)
      | (with_reducible exact ih1 _ _ _ _ _ _)
      | (with_reducible exact ih2 _ _ _ _ _ _)
      | (with_reducible exact ih3 _ _ _ _ _ _)
      | (with_reducible exact md5_Pad.mono _ _)
      | (with_reducible exact portreevelaw02_shown.mono _)
      | (with_reducible exact portreeveref01_Row.mono _ _ _)
      | (with_reducible exact LeO.refl _)
      | (with_reducible exact LeO.none _)
      | (with_reducible refine LeO.ite ?_ ?_)
      | (with_reducible refine LeO.bind ?_ (fun _ => ?_))
      | exact ih0 _ _ _ _
      | exact ih1 _ _ _ _ _ _
      | exact ih2 _ _ _ _ _ _
      | exact ih3 _ _ _ _ _ _
      | exact md5_Pad.mono _ _
      | exact portreevelaw02_shown.mono _
      | exact portreeveref01_Row.mono _ _ _
      | exact LeO.none _
      | refine LeO.ite ?_ ?_
      | refine LeO.bind ?_ (fun _ => ?_)
theorem portreevelaw02_Md5Pads.mono : ∀ a0 a1 k, LeO (portreevelaw02_Md5Pads.f k a0 a1) (portreevelaw02_Md5Pads.f (k + 1) a0 a1) := by
  intro a0 a1 k
  obtain ⟨ih0, ih1, ih2, ih3⟩ := portreevelaw02_Md5Pads.mono_l k
  unfold portreevelaw02_Md5Pads.f
  repeat' first
      | (with_reducible exact ih0 _ _ _ _)
      | (with_reducible exact ih1 _ _ _ _ _ _)
      | (with_reducible exact ih2 _ _ _ _ _ _)
      | (with_reducible exact ih3 _ _ _ _ _ _)
      | (with_reducible exact md5_Pad.mono _ _)
      | (with_reducible exact portreevelaw02_shown.mono _)
      | (with_reducible exact portreeveref01_Row.mono _ _ _)
      | (with_reducible exact LeO.refl _)
      | (with_reducible exact LeO.none _)
      | (with_reducible refine LeO.ite ?_ ?_)
      | (with_reducible refine LeO.bind ?_ (fun _ => ?_))
      | exact ih0 _ _ _ _
      | exact ih1 _ _ _ _ _ _
      | exact ih2 _ _ _ _ _ _
      | exact ih3 _ _ _ _ _ _
      | exact md5_Pad.mono _ _
      | exact portreevelaw02_shown.mono _
      | exact portreeveref01_Row.mono _ _ _
      | exact LeO.none _
      | refine LeO.ite ?_ ?_
      | refine LeO.bind ?_ (fun _ => ?_)
set_option maxHeartbeats 8000000 in
set_option maxRecDepth 100000 in
theorem portreevelaw02_Md5Pads.calls (k : Nat) (A0 : Option Addr) (c0 : Nat) (l0 : List Int) (A1 : Option Addr) (c1 : Nat) (l1 : List Int) (r : Bool) (w : World) (hlaw_ : Aside0 (r = true)) (hr0 : Kd.C (Kd.int .u8) w A0 l0.length l0) (hc0 : l0.length ≤ c0) (hr1 : Kd.C (Kd.int .u8) w A1 l1.length l1) (hc1 : l1.length ≤ c1) (h : portreevelaw02_Md5Pads.f k l0 l1 = some r) :
    Calls Try.prog 5 #[.slice A0 l0.length c0, .slice A1 l1.length c1] w fun e w' => e = .returned (.bool r) ∧ Below w.heap.size w w' := by
  have HR0 := Aside0.mk hr0
  have HC0 := Aside0.mk hc0
  clear hr0 hc0
  have HR1 := Aside0.mk hr1
  have HC1 := Aside0.mk hc1
  clear hr1 hc1
  have HB := Aside0.mk (Below.refl w.heap.size w)
  have H : ((portreevelaw02_shown.f k).bind fun t183 => (if (l0.length : Int) > 1000 then (portreevelaw02_Md5Pads.j0 k l0 l1 t183 true) else (portreevelaw02_Md5Pads.j0 k l0 l1 t183 (decide ((l1.length : Int) > 1000))))) = some r := h
  clear h
  replace H := Option.bind_eq_some_iff.mp H
  obtain ⟨t183, A30, H⟩ := H
  replace H : (if (l0.length : Int) > 1000 then (portreevelaw02_Md5Pads.j0 k l0 l1 t183 true) else (portreevelaw02_Md5Pads.j0 k l0 l1 t183 (decide ((l1.length : Int) > 1000)))) = some r := H
  have A3 := Aside0.mk A30
  clear A30
  have HC4 := Aside0.mk H
  clear H
  go_enter Try.func5, Try.ntmps5
  go_upto_region 2 with (first | ((with_reducible refine gate_callee (f := 8) rfl ?_); refine goesL_ (some 11) rfl rfl Try.func8 (by kernel_rfl) rfl #[] rfl (by (try simp only [List.map_toArray, List.map_cons, List.map_nil]); first | done | rfl | (simp only [List.length_drop, List.length_take]; rfl)) ?_; (with_reducible refine (portreevelaw02_shown.calls k  t183 _ A3.out).mono ?_); rintro e w5 ⟨rfl, hb⟩; refine ⟨_, rfl, ?_⟩; have n0_ := Aside0.mk (below_step (by repeat (first | (with_reducible first | exact HB.out | apply pA | apply pN | apply pD) | exact HB.out)) hb); clear HB; have HB := n0_; clear n0_; (try clear hb); (try clear hb2); (try clear hk); (try clear hi)))
  (try simp only [Act.put, List.setIfInBounds_toArray, List.set_cons_zero, List.set_cons_succ])
  go_cut [19] (fun v19 wc => ∃ (kq : Nat) (x19_3 : Bool), v19 = .bool x19_3 ∧ Aside0 (portreevelaw02_Md5Pads.j0 kq l0 l1 t183 x19_3 = some r) ∧ Aside0 (kq ≤ k) ∧ Aside0 (Below w.heap.size w wc))
  case first =>
    have H := HC4.out
    clear HC4
    by_cases c6 : (l0.length : Int) > 1000
    · rw [if_pos c6] at H
      have c6b0 : decide (1000 < (l0.length : Int)) = true := decide_eq_true c6
      have c6b1 : decide (1000 < l0.length) = true := decide_eq_true (by omega)
      clear c6
      (first | rw [c6b0] | (simp only [i64_w, i32_w]; rw [c6b0]) | skip)
      have H' := Aside0.mk H
      clear H
      go_wp2
      go_meet
      case rel => exact ⟨_, (true), (by first | rfl | (simp; done) | (simp [*]; done)), H', ⟨by first | omega | exact Nat.le_refl _⟩, ⟨by repeat (first | (with_reducible first | exact HB.out | apply pA | apply pN | apply pD) | exact HB.out)⟩⟩
    · rw [if_neg c6] at H
      have c6b0 : decide (1000 < (l0.length : Int)) = false := decide_eq_false c6
      have c6b1 : decide (1000 < l0.length) = false := decide_eq_false (by omega)
      clear c6
      (first | rw [c6b0] | (simp only [i64_w, i32_w]; rw [c6b0]) | skip)
      have H' := Aside0.mk H
      clear H
      go_wp2
      go_meet
      case rel => exact ⟨_, (decide ((l1.length : Int) > 1000)), (by first | rfl | (simp; done) | (simp [*]; done)), H', ⟨by first | omega | exact Nat.le_refl _⟩, ⟨by repeat (first | (with_reducible first | exact HB.out | apply pA | apply pN | apply pD) | exact HB.out)⟩⟩
  case rest =>
    clear HC4
    try clear c1
    try clear p2
    try clear c5
    try clear c6
    try clear c6b0
    try clear c6b1
    obtain ⟨kq, x19_3, rfl, HA, HJ3, HB⟩ := hcut
    cases kq with
    | zero => exact absurd HA.out (by simp [portreevelaw02_Md5Pads.j0])
    | succ kj3 =>
      have H := HA.out
      clear HA
      simp only [portreevelaw02_Md5Pads.j0] at H
      by_cases c7 : x19_3 = true
      · subst c7
        have H1 : (some t183) = some r := by rw [if_pos rfl] at H; exact H
        clear H
        have H := H1
        clear H1
        clear hlaw_
        obtain rfl := Option.some.inj H
        go_wp2
        go_ret
        exact ⟨by first | rfl | (simp [errW_none, errW_some] <;> rfl) | (simp [*, errW_none, errW_some] <;> rfl), by repeat (first | (with_reducible first | exact HB.out | apply pA | apply pN | apply pD) | exact HB.out)⟩
      · replace c7 := Bool.eq_false_iff.mpr c7
        subst c7
        have H1 : ((md5_Pad.f kj3 l0).bind fun t184 => (if (wrap64 ((wrap64 ((t184.length : Int) - 9)) - (l0.length : Int))) < 0 then (portreevelaw02_Md5Pads.j1 kj3 l0 l1 t183 t184 (wrap64 ((wrap64 ((t184.length : Int) - 9)) - (l0.length : Int))) true) else (if (wrap64 ((wrap64 ((t184.length : Int) - 9)) - (l0.length : Int))) > 63 then (portreevelaw02_Md5Pads.j1 kj3 l0 l1 t183 t184 (wrap64 ((wrap64 ((t184.length : Int) - 9)) - (l0.length : Int))) true) else (if 0 ≤ (l0.length : Int) then (if (l0.length : Int) ≤ (t184.length : Int) then ((portreeveref01_Row.f kj3 (t184.take ((l0.length : Int) : Int).toNat) l0).bind fun t191 => (if t191 = true then (if (l0.length : Int) < (t184.length : Int) then (portreevelaw02_Md5Pads.j1 kj3 l0 l1 t183 t184 (wrap64 ((wrap64 ((t184.length : Int) - 9)) - (l0.length : Int))) ((rd t184 (l0.length : Int)) != 128)) else (none)) else (portreevelaw02_Md5Pads.j1 kj3 l0 l1 t183 t184 (wrap64 ((wrap64 ((t184.length : Int) - 9)) - (l0.length : Int))) true))) else (none)) else (none))))) = some r := by rw [if_neg (show ¬ (false = true) by decide)] at H; exact H
        clear H
        have H := H1
        clear H1
        replace H := Option.bind_eq_some_iff.mp H
        obtain ⟨t184, A80, H⟩ := H
        replace H : (if (wrap64 ((wrap64 ((t184.length : Int) - 9)) - (l0.length : Int))) < 0 then (portreevelaw02_Md5Pads.j1 kj3 l0 l1 t183 t184 (wrap64 ((wrap64 ((t184.length : Int) - 9)) - (l0.length : Int))) true) else (if (wrap64 ((wrap64 ((t184.length : Int) - 9)) - (l0.length : Int))) > 63 then (portreevelaw02_Md5Pads.j1 kj3 l0 l1 t183 t184 (wrap64 ((wrap64 ((t184.length : Int) - 9)) - (l0.length : Int))) true) else (if 0 ≤ (l0.length : Int) then (if (l0.length : Int) ≤ (t184.length : Int) then ((portreeveref01_Row.f kj3 (t184.take ((l0.length : Int) : Int).toNat) l0).bind fun t191 => (if t191 = true then (if (l0.length : Int) < (t184.length : Int) then (portreevelaw02_Md5Pads.j1 kj3 l0 l1 t183 t184 (wrap64 ((wrap64 ((t184.length : Int) - 9)) - (l0.length : Int))) ((rd t184 (l0.length : Int)) != 128)) else (none)) else (portreevelaw02_Md5Pads.j1 kj3 l0 l1 t183 t184 (wrap64 ((wrap64 ((t184.length : Int) - 9)) - (l0.length : Int))) true))) else (none)) else (none)))) = some r := H
        have A8 := Aside0.mk A80
        clear A80
        have HC9 := Aside0.mk H
        clear H
        go_upto_region 6 with (first | ((with_reducible refine gate_callee (f := 12) rfl ?_); refine goesL_ (some 22) rfl rfl Try.func12 (by kernel_rfl) rfl #[.slice A0 l0.length c0] rfl (by (try simp only [List.map_toArray, List.map_cons, List.map_nil]); first | done | rfl | (simp only [List.length_drop, List.length_take]; rfl)) ?_; (with_reducible refine (md5_Pad.calls kj3 _ _ l0 t184 _ ?side1 ?side2 A8.out).mono ?_); (case side1 => repeat (first | exact (Kd.C_below HR0.out HB.out) | (with_reducible refine Kd.C_alloc ?_ _) | (with_reducible refine Kd.C_drewN ?_ _) | (with_reducible refine Kd.C_drew ?_))); (case side2 => exact HC0.out); rintro e w10 ⟨v185, rfl, ho0, hb⟩; refine ⟨_, rfl, ?_⟩; have n0_ := Aside0.mk (Kd.R_lower ho0 (below_size (by repeat (first | (with_reducible first | exact HB.out | apply pA | apply pN | apply pD) | exact HB.out)))); have n1_ := Aside0.mk (below_step (by repeat (first | (with_reducible first | exact HB.out | apply pA | apply pN | apply pD) | exact HB.out)) hb); clear HB; have HO186 := n0_; have HB := n1_; clear n0_ n1_; (try clear hb); (try clear hb2); (try clear hk); (try clear hi); (try clear ho0); obtain ⟨Ao11, co11, eo11⟩ := Kd.R_slice HO186.out; subst eo11))
        (try simp only [Act.put, List.setIfInBounds_toArray, List.set_cons_zero, List.set_cons_succ])
        go_cut [51] (fun v51 wc => ∃ (kq : Nat) (x51_8 : Bool), v51 = .bool x51_8 ∧ Aside0 (portreevelaw02_Md5Pads.j1 kq l0 l1 t183 t184 (wrap64 ((wrap64 ((t184.length : Int) - 9)) - (l0.length : Int))) x51_8 = some r) ∧ Aside0 (kq ≤ kj3) ∧ Aside0 (Kd.R (Kd.int .u8) 5 wc w.heap.size (fun _ => True) (.slice Ao11 t184.length co11) t184) ∧ Aside0 (Below w.heap.size w wc))
        case first =>
          have H := HC9.out
          clear HC9
          by_cases c12 : (wrap64 ((wrap64 ((t184.length : Int) - 9)) - (l0.length : Int))) < 0
          · rw [if_pos c12] at H
            have c12b0 : decide ((wrap64 ((wrap64 ((t184.length : Int) - 9)) - (l0.length : Int))) < 0) = true := decide_eq_true c12
            clear c12
            (first | rw [c12b0] | (simp only [i64_w, i32_w]; rw [c12b0]) | skip)
            have H' := Aside0.mk H
            clear H
            go_wp2
            go_meet
            case rel => exact ⟨_, (true), (by first | rfl | (simp; done) | (simp [*]; done)), H', ⟨by have := HJ3.out; first | omega | exact Nat.le_refl _⟩, ⟨by (with_reducible repeat (first | apply Kd.R_alloc | apply Kd.R_drewN | apply Kd.R_drew)); exact HO186.out⟩, ⟨by repeat (first | (with_reducible first | exact HB.out | apply pA | apply pN | apply pD) | exact HB.out)⟩⟩
          · rw [if_neg c12] at H
            have c12b0 : decide ((wrap64 ((wrap64 ((t184.length : Int) - 9)) - (l0.length : Int))) < 0) = false := decide_eq_false c12
            clear c12
            (first | rw [c12b0] | (simp only [i64_w, i32_w]; rw [c12b0]) | skip)
            by_cases c13 : (wrap64 ((wrap64 ((t184.length : Int) - 9)) - (l0.length : Int))) > 63
            · rw [if_pos c13] at H
              have c13b0 : decide (63 < (wrap64 ((wrap64 ((t184.length : Int) - 9)) - (l0.length : Int)))) = true := decide_eq_true c13
              clear c13
              have H' := Aside0.mk H
              clear H
              go_wp2
              go_meet
              case rel => exact ⟨_, (true), (by first | rfl | (simp; done) | (simp [*]; done)), H', ⟨by have := HJ3.out; first | omega | exact Nat.le_refl _⟩, ⟨by (with_reducible repeat (first | apply Kd.R_alloc | apply Kd.R_drewN | apply Kd.R_drew)); exact HO186.out⟩, ⟨by repeat (first | (with_reducible first | exact HB.out | apply pA | apply pN | apply pD) | exact HB.out)⟩⟩
            · rw [if_neg c13] at H
              have c13b0 : decide (63 < (wrap64 ((wrap64 ((t184.length : Int) - 9)) - (l0.length : Int)))) = false := decide_eq_false c13
              clear c13
              by_cases c14 : 0 ≤ (l0.length : Int)
              · rw [if_pos c14] at H
                have c14b0 := eq_true c14
                have c14b1 : decide (0 ≤ (l0.length : Int)) = true := decide_eq_true c14
                clear c14
                by_cases c15 : (l0.length : Int) ≤ (t184.length : Int)
                · rw [if_pos c15] at H
                  have c15b0 := eq_true c15
                  have c15b1 : decide ((l0.length : Int) ≤ (t184.length : Int)) = true := decide_eq_true c15
                  clear c15
                  obtain ⟨y187, hy187⟩ : ∃ y_ : List Int, y_ = (t184.take ((l0.length : Int) : Int).toNat) := ⟨_, rfl⟩
                  replace H : ((portreeveref01_Row.f kj3 y187 l0).bind fun t191 => (if t191 = true then (if (l0.length : Int) < (t184.length : Int) then (portreevelaw02_Md5Pads.j1 kj3 l0 l1 t183 t184 (wrap64 ((wrap64 ((t184.length : Int) - 9)) - (l0.length : Int))) ((rd t184 (l0.length : Int)) != 128)) else (none)) else (portreevelaw02_Md5Pads.j1 kj3 l0 l1 t183 t184 (wrap64 ((wrap64 ((t184.length : Int) - 9)) - (l0.length : Int))) true))) = some r := by first | (rw [hy187]; with_reducible exact H) | (have H2_ := (Option.bind_some _ _).symm.trans H; rw [hy187]; with_reducible exact H2_) | (have H2_ := (Option.bind_some _ _).symm.trans H; with_reducible exact H2_) | with_reducible exact H | (rw [hy187]; exact H) | exact H
                  have Ny187 := Aside0.mk hy187
                  clear hy187
                  replace H := Option.bind_eq_some_iff.mp H
                  obtain ⟨t191, A160, H⟩ := H
                  replace H : (if t191 = true then (if (l0.length : Int) < (t184.length : Int) then (portreevelaw02_Md5Pads.j1 kj3 l0 l1 t183 t184 (wrap64 ((wrap64 ((t184.length : Int) - 9)) - (l0.length : Int))) ((rd t184 (l0.length : Int)) != 128)) else (none)) else (portreevelaw02_Md5Pads.j1 kj3 l0 l1 t183 t184 (wrap64 ((wrap64 ((t184.length : Int) - 9)) - (l0.length : Int))) true)) = some r := H
                  have A16 := Aside0.mk A160
                  clear A160
                  by_cases c17 : t191 = true
                  · subst c17
                    have H1 : (if (l0.length : Int) < (t184.length : Int) then (portreevelaw02_Md5Pads.j1 kj3 l0 l1 t183 t184 (wrap64 ((wrap64 ((t184.length : Int) - 9)) - (l0.length : Int))) ((rd t184 (l0.length : Int)) != 128)) else (none)) = some r := by rw [if_pos rfl] at H; exact H
                    clear H
                    have H := H1
                    clear H1
                    by_cases c18 : (l0.length : Int) < (t184.length : Int)
                    · rw [if_pos c18] at H
                      have c18b0 : decide ((l0.length : Int) < (t184.length : Int)) = true := decide_eq_true c18
                      have c18b1 : decide (l0.length < t184.length) = true := decide_eq_true (Int.ofNat_lt.mp c18)
                      clear c18
                      have H' := Aside0.mk H
                      clear H
                      have q19 : ((l0.length : Int) : Int) ≤ ((t184.length : Int) : Int) := of_decide_eq_true (by first | (with_reducible assumption) | assumption)
                      obtain ⟨i019, hi019, _, hsz19, _⟩ := info_parts info5
                      have hroom19 : t184.length ≤ co11 := (Kd.R_reads' HO186.out).2.1
                      have hC19 : Kd.C (Kd.int .u8) _ Ao11 t184.length t184 := (Kd.R_reads' HO186.out).2.2
                      have hcut19 := cut_to (P := Try.prog) 22 5 .i64 Try.underlying22 hi019 Ao11 t184.length co11 (l0.length : Int) (of_decide_eq_true (by first | (with_reducible assumption) | assumption)) q19 hroom19
                      have hr19 := Kd.C_take (m := ((l0.length : Int) : Int).toNat) hC19 (by omega)
                      have hy19 : y187.length = ((l0.length : Int) : Int).toNat := (by rw [Ny187.out, List.length_take]; omega)
                      rw [← Ny187.out] at hr19
                      rw [← hy19] at hcut19
                      have HR190 := Aside0.mk hr19
                      have HC190 := Aside0.mk (show y187.length ≤ co11 from by omega)
                      clear hr19 hC19 hroom19 hi019 hsz19
                      have KY19 := Aside0.mk hy19
                      clear hy19
                      have KL19 := Aside0.mk (show ((l0.length : Int) : Int).toNat ≤ t184.length from by omega)
                      replace q19 := eq_true q19
                      go_wp2_with (first | (go_at_call 11; (with_reducible refine (portreeveref01_Row.calls kj3 _ _ y187 _ _ l0 true _ ?side1 ?side2 ?side3 ?side4 A16.out).mono ?_); (case side1 => repeat (first | exact (by repeat (first | (with_reducible exact HR190.out) | (with_reducible refine Kd.C_alloc ?_ _) | (with_reducible refine Kd.C_drewN ?_ _) | (with_reducible refine Kd.C_drew ?_) | exact HR190.out)) | (with_reducible refine Kd.C_alloc ?_ _) | (with_reducible refine Kd.C_drewN ?_ _) | (with_reducible refine Kd.C_drew ?_))); (case side2 => exact HC190.out); (case side3 => repeat (first | exact (Kd.C_below HR0.out HB.out) | (with_reducible refine Kd.C_alloc ?_ _) | (with_reducible refine Kd.C_drewN ?_ _) | (with_reducible refine Kd.C_drew ?_))); (case side4 => exact HC0.out); rintro e w' ⟨rfl, ⟨nd, rfl⟩⟩; have p192 : 0 ≤ ((l0.length : Int) : Int) := of_decide_eq_true (by first | (with_reducible assumption) | assumption); have q192 : (l0.length : Int) < (t184.length : Int) := of_decide_eq_true (by first | (with_reducible assumption) | assumption); obtain ⟨ad192, e192, hx192_0⟩ := Kd.at_int (Kd.R_reads' HO186.out).2.2 (l0.length : Int) p192 q192; cases e192; (try simp only [Go.IntWalk.toNatUp] at hx192_0); replace p192 := eq_true p192; replace q192 := eq_true q192))
                      go_meet
                      case rel => exact ⟨_, (((rd t184 (l0.length : Int)) != 128)), (by first | rfl | (simp; done) | (simp [*]; done)), H', ⟨by have := HJ3.out; first | omega | exact Nat.le_refl _⟩, ⟨by (with_reducible repeat (first | apply Kd.R_alloc | apply Kd.R_drewN | apply Kd.R_drew)); exact HO186.out⟩, ⟨by repeat (first | (with_reducible first | exact HB.out | apply pA | apply pN | apply pD) | exact HB.out)⟩⟩
                    · rw [if_neg c18] at H
                      exact absurd H (by simp)
                  · replace c17 := Bool.eq_false_iff.mpr c17
                    subst c17
                    have H1 : (portreevelaw02_Md5Pads.j1 kj3 l0 l1 t183 t184 (wrap64 ((wrap64 ((t184.length : Int) - 9)) - (l0.length : Int))) true) = some r := by rw [if_neg (show ¬ (false = true) by decide)] at H; exact H
                    clear H
                    have H := H1
                    clear H1
                    have H' := Aside0.mk H
                    clear H
                    have q20 : ((l0.length : Int) : Int) ≤ ((t184.length : Int) : Int) := of_decide_eq_true (by first | (with_reducible assumption) | assumption)
                    obtain ⟨i020, hi020, _, hsz20, _⟩ := info_parts info5
                    have hroom20 : t184.length ≤ co11 := (Kd.R_reads' HO186.out).2.1
                    have hC20 : Kd.C (Kd.int .u8) _ Ao11 t184.length t184 := (Kd.R_reads' HO186.out).2.2
                    have hcut20 := cut_to (P := Try.prog) 22 5 .i64 Try.underlying22 hi020 Ao11 t184.length co11 (l0.length : Int) (of_decide_eq_true (by first | (with_reducible assumption) | assumption)) q20 hroom20
                    have hr20 := Kd.C_take (m := ((l0.length : Int) : Int).toNat) hC20 (by omega)
                    have hy20 : y187.length = ((l0.length : Int) : Int).toNat := (by rw [Ny187.out, List.length_take]; omega)
                    rw [← Ny187.out] at hr20
                    rw [← hy20] at hcut20
                    have HR190 := Aside0.mk hr20
                    have HC190 := Aside0.mk (show y187.length ≤ co11 from by omega)
                    clear hr20 hC20 hroom20 hi020 hsz20
                    have KY20 := Aside0.mk hy20
                    clear hy20
                    have KL20 := Aside0.mk (show ((l0.length : Int) : Int).toNat ≤ t184.length from by omega)
                    replace q20 := eq_true q20
                    go_wp2_with (first | (go_at_call 11; (with_reducible refine (portreeveref01_Row.calls kj3 _ _ y187 _ _ l0 false _ ?side1 ?side2 ?side3 ?side4 A16.out).mono ?_); (case side1 => repeat (first | exact (by repeat (first | (with_reducible exact HR190.out) | (with_reducible refine Kd.C_alloc ?_ _) | (with_reducible refine Kd.C_drewN ?_ _) | (with_reducible refine Kd.C_drew ?_) | exact HR190.out)) | (with_reducible refine Kd.C_alloc ?_ _) | (with_reducible refine Kd.C_drewN ?_ _) | (with_reducible refine Kd.C_drew ?_))); (case side2 => exact HC190.out); (case side3 => repeat (first | exact (Kd.C_below HR0.out HB.out) | (with_reducible refine Kd.C_alloc ?_ _) | (with_reducible refine Kd.C_drewN ?_ _) | (with_reducible refine Kd.C_drew ?_))); (case side4 => exact HC0.out); rintro e w' ⟨rfl, ⟨nd, rfl⟩⟩))
                    go_meet
                    case rel => exact ⟨_, (true), (by first | rfl | (simp; done) | (simp [*]; done)), H', ⟨by have := HJ3.out; first | omega | exact Nat.le_refl _⟩, ⟨by (with_reducible repeat (first | apply Kd.R_alloc | apply Kd.R_drewN | apply Kd.R_drew)); exact HO186.out⟩, ⟨by repeat (first | (with_reducible first | exact HB.out | apply pA | apply pN | apply pD) | exact HB.out)⟩⟩
                · rw [if_neg c15] at H
                  exact absurd H (by simp)
              · rw [if_neg c14] at H
                exact absurd H (by simp)
        case rest =>
          clear HC9
          try clear c1
          try clear p1
          try clear q1
          try clear hx1
          try clear p2
          try clear q2
          try clear c5
          try clear c6
          try clear c6b0
          try clear c6b1
          try clear p6
          try clear c7
          try clear c8
          try clear c12
          try clear c12b0
          try clear c13
          try clear c13b0
          try clear c14
          try clear c14b0
          try clear c14b1
          try clear c15
          try clear c15b0
          try clear c15b1
          try clear c17
          try clear c18
          try clear c18b0
          try clear c18b1
          try clear p19
          try clear q19
          try clear hx19
          try clear q20
          try clear hx192_0
          try clear p192
          try clear p2
          try clear q19
          try clear q192
          try clear q20
          obtain ⟨kq, x51_8, rfl, HA, HJ8, HO_6, HB⟩ := hcut
          cases kq with
          | zero => exact absurd HA.out (by simp [portreevelaw02_Md5Pads.j1])
          | succ kj8 =>
            have H := HA.out
            clear HA
            simp only [portreevelaw02_Md5Pads.j1] at H
            by_cases c21 : x51_8 = true
            · subst c21
              have H1 : (some false) = some r := by rw [if_pos rfl] at H; exact H
              clear H
              have H := H1
              clear H1
              exact absurd ((Option.some.inj H).trans hlaw_.out) (by decide)
            · replace c21 := Bool.eq_false_iff.mpr c21
              subst c21
              have H1 : (portreevelaw02_Md5Pads.l0 kj8 l0 l1 t183 t184 (wrap64 ((wrap64 ((t184.length : Int) - 9)) - (l0.length : Int))) 0) = some r := by rw [if_neg (show ¬ (false = true) by decide)] at H; exact H
              clear H
              have H := H1
              clear H1
              have H' := Aside0.mk H
              clear H
              go_wp2
              go_loopg [8] kj8 (fun kq v8 w' => ∃ (x8_3 : Int), v8 = .int .i64 x8_3 ∧ Aside0 (portreevelaw02_Md5Pads.l0 kq l0 l1 t183 t184 (wrap64 ((wrap64 ((t184.length : Int) - 9)) - (l0.length : Int))) x8_3 = some r) ∧ Aside0 (kq ≤ kj8) ∧ Aside0 (Kd.R (Kd.int .u8) 5 w' w.heap.size (fun _ => True) (.slice Ao11 t184.length co11) t184) ∧ Aside0 (Below w.heap.size w w'))
              case atStart => exact ⟨(0), (by first | rfl | (simp; done) | (simp [*]; done)), H', ⟨Nat.le_refl _⟩, ⟨by (with_reducible repeat (first | apply Kd.R_alloc | apply Kd.R_drewN | apply Kd.R_drew)); exact HO_6.out⟩, ⟨by repeat (first | (with_reducible first | exact HB.out | apply pA | apply pN | apply pD) | exact HB.out)⟩⟩
              case round =>
                clear H'
                try clear c1
                try clear p1
                try clear q1
                try clear hx1
                try clear c2
                try clear p2
                try clear q2
                try clear c5
                try clear c6
                try clear c6b0
                try clear c6b1
                try clear p6
                try clear c7
                try clear c8
                try clear c12
                try clear c12b0
                try clear c13
                try clear c13b0
                try clear c14
                try clear c14b0
                try clear c14b1
                try clear c15
                try clear c15b0
                try clear c15b1
                try clear c17
                try clear c18
                try clear c18b0
                try clear c18b1
                try clear p19
                try clear q19
                try clear hx19
                try clear q20
                try clear c21
                try clear hx192_0
                try clear p1
                try clear p19
                try clear p192
                try clear p2
                try clear p6
                try clear q1
                try clear q19
                try clear q192
                try clear q2
                try clear q20
                obtain ⟨x8_3, rfl, HA, HK3, HO_6, HB⟩ := hrel
                cases gk with
                | zero => exact absurd HA.out (by simp [portreevelaw02_Md5Pads.l0])
                | succ k3 =>
                  have H := HA.out
                  clear HA
                  simp only [portreevelaw02_Md5Pads.l0] at H
                  by_cases c22 : x8_3 < (wrap64 ((wrap64 ((t184.length : Int) - 9)) - (l0.length : Int)))
                  · rw [if_pos c22] at H
                    have c22b0 : decide (x8_3 < (wrap64 ((wrap64 ((t184.length : Int) - 9)) - (l0.length : Int)))) = true := decide_eq_true c22
                    clear c22
                    obtain ⟨ji23, hji23⟩ : ∃ j_ : Int, (wrap64 ((wrap64 ((l0.length : Int) + 1)) + x8_3)) = j_ := ⟨_, rfl⟩
                    replace H : (if 0 ≤ (ji23) then (if (ji23) < (t184.length : Int) then (if (rd t184 (ji23)) = 0 then (portreevelaw02_Md5Pads.l0 k3 l0 l1 t183 t184 (wrap64 ((wrap64 ((t184.length : Int) - 9)) - (l0.length : Int))) (wrap64 (x8_3 + 1))) else (some false)) else (none)) else (none)) = some r := by first | (rw [hji23] at H; exact H) | (simp only [hji23] at H ⊢; exact H)
                    have hji23w : (IntKind.i64.wrap ((wrap64 ((l0.length : Int) + 1)) + x8_3)) = ji23 := (i64_w _).trans hji23
                    by_cases c24 : 0 ≤ (ji23)
                    · rw [if_pos c24] at H
                      have c24b0 : decide (0 ≤ (ji23)) = true := decide_eq_true c24
                      clear c24
                      by_cases c25 : (ji23) < (t184.length : Int)
                      · rw [if_pos c25] at H
                        have c25b0 : decide ((ji23) < (t184.length : Int)) = true := decide_eq_true c25
                        clear c25
                        by_cases c26 : (rd t184 (ji23)) = 0
                        · rw [if_pos c26] at H
                          have c26b0 : ((rd t184 (ji23)) == 0) = true := beq_iff_eq.mpr c26
                          have c26b1 : ((rd t184 (ji23)) != 0) = false := bne_eq_false_iff_eq.mpr c26
                          clear c26
                          have H' := Aside0.mk H
                          clear H
                          have p193 : 0 ≤ ((ji23) : Int) := of_decide_eq_true (by first | (with_reducible assumption) | assumption)
                          have q193 : (ji23) < (t184.length : Int) := of_decide_eq_true (by first | (with_reducible assumption) | assumption)
                          obtain ⟨ad193, e193, hx193_0⟩ := Kd.at_int (Kd.R_reads' HO_6.out).2.2 (ji23) p193 q193
                          cases e193
                          replace p193 := eq_true p193
                          replace q193 := eq_true q193
                          go_wp2
                          go_roundg k3
                          case measure => have := HJ3.out; have := HJ8.out; have := HK3.out; omega
                          case rel => exact ⟨(wrap64 (x8_3 + 1)), (by first | rfl | (simp; done) | (simp [*]; done)), H', ⟨by have := HJ3.out; have := HJ8.out; have := HK3.out; omega⟩, ⟨by (with_reducible repeat (first | apply Kd.R_alloc | apply Kd.R_drewN | apply Kd.R_drew)); exact HO_6.out⟩, ⟨by repeat (first | (with_reducible first | exact HB.out | apply pA | apply pN | apply pD) | exact HB.out)⟩⟩
                        · rw [if_neg c26] at H
                          have c26b0 : ((rd t184 (ji23)) == 0) = false := beq_eq_false_iff_ne.mpr c26
                          have c26b1 : ((rd t184 (ji23)) != 0) = true := bne_iff_ne.mpr c26
                          exact absurd ((Option.some.inj H).trans hlaw_.out) (by decide)
                      · rw [if_neg c25] at H
                        exact absurd H (by simp)
                    · rw [if_neg c24] at H
                      exact absurd H (by simp)
                  · rw [if_neg c22] at H
                    have c22b0 : decide (x8_3 < (wrap64 ((wrap64 ((t184.length : Int) - 9)) - (l0.length : Int)))) = false := decide_eq_false c22
                    clear c22
                    have H' := Aside0.mk H
                    clear H
                    go_wp2
                    go_loopg [9, 10] k3 (fun kq v9 v10 w' => ∃ (x9_4 : Int) (x10_4 : Int), v9 = .int .i64 x9_4 ∧ v10 = .int .i64 x10_4 ∧ Aside0 (portreevelaw02_Md5Pads.l1 kq l0 l1 t183 t184 x9_4 x10_4 = some r) ∧ Aside0 (kq ≤ k3) ∧ Aside0 (Kd.R (Kd.int .u8) 5 w' w.heap.size (fun _ => True) (.slice Ao11 t184.length co11) t184) ∧ Aside0 (Below w.heap.size w w'))
                    case atStart => exact ⟨(0), (7), (by first | rfl | (simp; done) | (simp [*]; done)), (by first | rfl | (simp; done) | (simp [*]; done)), H', ⟨Nat.le_refl _⟩, ⟨by (with_reducible repeat (first | apply Kd.R_alloc | apply Kd.R_drewN | apply Kd.R_drew)); exact HO_6.out⟩, ⟨by repeat (first | (with_reducible first | exact HB.out | apply pA | apply pN | apply pD) | exact HB.out)⟩⟩
                    case round =>
                      clear H'
                      try clear c1
                      try clear p1
                      try clear q1
                      try clear hx1
                      try clear c2
                      try clear p2
                      try clear q2
                      try clear c5
                      try clear c6
                      try clear c6b0
                      try clear c6b1
                      try clear p6
                      try clear c7
                      try clear c8
                      try clear c12
                      try clear c12b0
                      try clear c13
                      try clear c13b0
                      try clear c14
                      try clear c14b0
                      try clear c14b1
                      try clear c15
                      try clear c15b0
                      try clear c15b1
                      try clear c17
                      try clear c18
                      try clear c18b0
                      try clear c18b1
                      try clear p19
                      try clear q19
                      try clear hx19
                      try clear q20
                      try clear c21
                      try clear c22
                      try clear c22b0
                      try clear c24
                      try clear c24b0
                      try clear c25
                      try clear c25b0
                      try clear c26
                      try clear c26b0
                      try clear c26b1
                      try clear hx192_0
                      try clear hx193_0
                      try clear p1
                      try clear p19
                      try clear p192
                      try clear p193
                      try clear p2
                      try clear p6
                      try clear q1
                      try clear q19
                      try clear q192
                      try clear q193
                      try clear q2
                      try clear q20
                      obtain ⟨x9_4, x10_4, rfl, rfl, HA, HK4, HO_6, HB⟩ := hrel
                      cases gk with
                      | zero => exact absurd HA.out (by simp [portreevelaw02_Md5Pads.l1])
                      | succ k4 =>
                        have H := HA.out
                        clear HA
                        simp only [portreevelaw02_Md5Pads.l1] at H
                        by_cases c27 : x10_4 ≥ 0
                        · rw [if_pos c27] at H
                          have c27b0 : decide (0 ≤ x10_4) = true := decide_eq_true c27
                          clear c27
                          obtain ⟨ji28, hji28⟩ : ∃ j_ : Int, (wrap64 ((wrap64 ((t184.length : Int) - 8)) + x10_4)) = j_ := ⟨_, rfl⟩
                          replace H : (if 0 ≤ (ji28) then (if (ji28) < (t184.length : Int) then (portreevelaw02_Md5Pads.l1 k4 l0 l1 t183 t184 (wrap64 ((wrap64 (x9_4 * 256)) + (wrap64 (rd t184 (ji28))))) (wrap64 (x10_4 - 1))) else (none)) else (none)) = some r := by first | (rw [hji28] at H; exact H) | (simp only [hji28] at H ⊢; exact H)
                          have hji28w : (IntKind.i64.wrap ((wrap64 ((t184.length : Int) - 8)) + x10_4)) = ji28 := (i64_w _).trans hji28
                          by_cases c29 : 0 ≤ (ji28)
                          · rw [if_pos c29] at H
                            have c29b0 : decide (0 ≤ (ji28)) = true := decide_eq_true c29
                            clear c29
                            by_cases c30 : (ji28) < (t184.length : Int)
                            · rw [if_pos c30] at H
                              have c30b0 : decide ((ji28) < (t184.length : Int)) = true := decide_eq_true c30
                              clear c30
                              have H' := Aside0.mk H
                              clear H
                              have p194 : 0 ≤ ((ji28) : Int) := of_decide_eq_true (by first | (with_reducible assumption) | assumption)
                              have q194 : (ji28) < (t184.length : Int) := of_decide_eq_true (by first | (with_reducible assumption) | assumption)
                              obtain ⟨ad194, e194, hx194_0⟩ := Kd.at_int (Kd.R_reads' HO_6.out).2.2 (ji28) p194 q194
                              cases e194
                              replace p194 := eq_true p194
                              replace q194 := eq_true q194
                              go_wp2
                              go_roundg k4
                              case measure => have := HJ3.out; have := HJ8.out; have := HK3.out; have := HK4.out; omega
                              case rel => exact ⟨(wrap64 ((wrap64 (x9_4 * 256)) + (wrap64 (rd t184 (ji28))))), (wrap64 (x10_4 - 1)), (by first | rfl | (simp; done) | (simp only [← hji28] <;> (first | rfl | simp)) | (simp [*]; done)), (by first | rfl | (simp; done) | (simp [*]; done)), H', ⟨by have := HJ3.out; have := HJ8.out; have := HK3.out; have := HK4.out; omega⟩, ⟨by (with_reducible repeat (first | apply Kd.R_alloc | apply Kd.R_drewN | apply Kd.R_drew)); exact HO_6.out⟩, ⟨by repeat (first | (with_reducible first | exact HB.out | apply pA | apply pN | apply pD) | exact HB.out)⟩⟩
                            · rw [if_neg c30] at H
                              exact absurd H (by simp)
                          · rw [if_neg c29] at H
                            exact absurd H (by simp)
                        · rw [if_neg c27] at H
                          have c27b0 : decide (0 ≤ x10_4) = false := decide_eq_false c27
                          clear c27
                          by_cases c31 : t183 = true
                          · subst c31
                            have H1 : (if x9_4 = (wrap64 (8 * (l0.length : Int))) then ((md5_Pad.f k4 l1).bind fun t195 => ((portreeveref01_Row.f k4 t184 t195).bind fun t198 => ((portreeveref01_Row.f k4 l0 l1).bind fun t199 => (some (t198 == t199))))) else (some false)) = some r := by rw [if_pos rfl] at H; exact H
                            clear H
                            have H := H1
                            clear H1
                            by_cases c32 : x9_4 = (wrap64 (8 * (l0.length : Int)))
                            · rw [if_pos c32] at H
                              have c32b0 : (x9_4 == (wrap64 (8 * (l0.length : Int)))) = true := beq_iff_eq.mpr c32
                              have c32b1 : (x9_4 != (wrap64 (8 * (l0.length : Int)))) = false := bne_eq_false_iff_eq.mpr c32
                              clear c32
                              replace H := Option.bind_eq_some_iff.mp H
                              obtain ⟨t195, A330, H⟩ := H
                              replace H : ((portreeveref01_Row.f k4 t184 t195).bind fun t198 => ((portreeveref01_Row.f k4 l0 l1).bind fun t199 => (some (t198 == t199)))) = some r := H
                              have A33 := Aside0.mk A330
                              clear A330
                              replace H := Option.bind_eq_some_iff.mp H
                              obtain ⟨t198, A340, H⟩ := H
                              replace H : ((portreeveref01_Row.f k4 l0 l1).bind fun t199 => (some (t198 == t199))) = some r := H
                              have A34 := Aside0.mk A340
                              clear A340
                              replace H := Option.bind_eq_some_iff.mp H
                              obtain ⟨t199, A350, H⟩ := H
                              replace H : (some (t198 == t199)) = some r := H
                              have A35 := Aside0.mk A350
                              clear A350
                              clear hlaw_
                              obtain rfl := Option.some.inj H
                              go_wp2_with (first | (go_at_call 12; (with_reducible refine (md5_Pad.calls k4 _ _ l1 t195 _ ?side1 ?side2 A33.out).mono ?_); (case side1 => repeat (first | exact (Kd.C_below HR1.out HB.out) | (with_reducible refine Kd.C_alloc ?_ _) | (with_reducible refine Kd.C_drewN ?_ _) | (with_reducible refine Kd.C_drew ?_))); (case side2 => exact HC1.out); rintro e w36 ⟨v196, rfl, ho0, hb⟩; have n0_ := Aside0.mk (Kd.R_elder' (by (with_reducible repeat (first | apply Kd.R_alloc | apply Kd.R_drewN | apply Kd.R_drew)); exact HO_6.out) (Kd.R_base ho0) hb); have n1_ := Aside0.mk (Kd.R_lower (Kd.R_new' ho0 (Kd.R_lt (by (with_reducible repeat (first | apply Kd.R_alloc | apply Kd.R_drewN | apply Kd.R_drew)); exact HO_6.out))) (below_size (by repeat (first | (with_reducible first | exact HB.out | apply pA | apply pN | apply pD) | exact HB.out)))); have n2_ := Aside0.mk (below_step (by repeat (first | (with_reducible first | exact HB.out | apply pA | apply pN | apply pD) | exact HB.out)) hb); clear HO_6; clear HB; have HO_6 := n0_; have HO197 := n1_; have HB := n2_; clear n0_ n1_ n2_; (try clear hb); (try clear hb2); (try clear hk); (try clear hi); (try clear ho0); obtain ⟨Ao37, co37, eo37⟩ := Kd.R_slice HO197.out; subst eo37) | (go_at_call 11; (with_reducible refine (portreeveref01_Row.calls k4 _ _ t184 _ _ t195 t198 _ ?side1 ?side2 ?side3 ?side4 A34.out).mono ?_); (case side1 => repeat (first | exact (Kd.R_reads' HO_6.out).2.2 | (with_reducible refine Kd.C_alloc ?_ _) | (with_reducible refine Kd.C_drewN ?_ _) | (with_reducible refine Kd.C_drew ?_))); (case side2 => exact (Kd.R_reads' HO_6.out).2.1); (case side3 => repeat (first | exact (Kd.R_reads' HO197.out).2.2 | (with_reducible refine Kd.C_alloc ?_ _) | (with_reducible refine Kd.C_drewN ?_ _) | (with_reducible refine Kd.C_drew ?_))); (case side4 => exact (Kd.R_reads' HO197.out).2.1); rintro e w' ⟨rfl, ⟨nd, rfl⟩⟩) | (go_at_call 11; (with_reducible refine (portreeveref01_Row.calls k4 _ _ l0 _ _ l1 t199 _ ?side1 ?side2 ?side3 ?side4 A35.out).mono ?_); (case side1 => repeat (first | exact (Kd.C_below HR0.out (by repeat (first | (with_reducible first | exact HB.out | apply pA | apply pN | apply pD) | exact HB.out))) | (with_reducible refine Kd.C_alloc ?_ _) | (with_reducible refine Kd.C_drewN ?_ _) | (with_reducible refine Kd.C_drew ?_))); (case side2 => exact HC0.out); (case side3 => repeat (first | exact (Kd.C_below HR1.out (by repeat (first | (with_reducible first | exact HB.out | apply pA | apply pN | apply pD) | exact HB.out))) | (with_reducible refine Kd.C_alloc ?_ _) | (with_reducible refine Kd.C_drewN ?_ _) | (with_reducible refine Kd.C_drew ?_))); (case side4 => exact HC1.out); rintro e w' ⟨rfl, ⟨nd, rfl⟩⟩))
                              go_ret
                              exact ⟨by first | rfl | (simp [errW_none, errW_some] <;> rfl) | (simp [*, errW_none, errW_some] <;> rfl), by repeat (first | (with_reducible first | exact HB.out | apply pA | apply pN | apply pD) | exact HB.out)⟩
                            · rw [if_neg c32] at H
                              have c32b0 : (x9_4 == (wrap64 (8 * (l0.length : Int)))) = false := beq_eq_false_iff_ne.mpr c32
                              have c32b1 : (x9_4 != (wrap64 (8 * (l0.length : Int)))) = true := bne_iff_ne.mpr c32
                              exact absurd ((Option.some.inj H).trans hlaw_.out) (by decide)
                          · replace c31 := Bool.eq_false_iff.mpr c31
                            subst c31
                            have H1 : (some false) = some r := by rw [if_neg (show ¬ (false = true) by decide)] at H; exact H
                            clear H
                            have H := H1
                            clear H1
                            exact absurd ((Option.some.inj H).trans hlaw_.out) (by decide)

-- NOT PRINTED: function 6 (portreevelaw02_Md5More)

end Go.Proofs.Ytadgdhefgibakaa.Q

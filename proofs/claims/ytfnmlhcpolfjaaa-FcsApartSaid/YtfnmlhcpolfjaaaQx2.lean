-- written by this session's own program (wip/tools/myprint.py), over the kit's print
import Derived.Test.YtfnmlhcpolfjaaaQx0
namespace Go.Proofs.Ytfnmlhcpolfjaaa.Q
open Go.RowKit Go.Proofs.YtfnmlhcpolfjaaaW.PrintWords Go.Proofs.YtfnmlhcpolfjaaaW.PrintLast Go.Proofs.YtfnmlhcpolfjaaaW.PrintMore
open Go.Proofs.YtfnmlhcpolfjaaaV
attribute [local go_sem] max2_int min2_int max_two min_two max_three min_three max_four min_four   -- for this text's walks alone
set_option linter.unusedVariables false
set_option linter.unusedSimpArgs false

/-! ### fcs_Step: function 12 -/
def fcs_Step.l0 : Nat → Int → Int → Option (Int)
  | 0, _, _ => none
  | k + 1, x0, x9 => if x9 < 8 then (fcs_Step.l0 k (Go.bits .xor .u16 (x0 / 2) (Go.bits .and .u16 33800 (IntKind.u16.wrap (-(Go.bits .and .u16 x0 1))))) (wrap64 (x9 + 1))) else (some x0)
def fcs_Step.f (k : Nat) (a0 : Int) (a1 : Int) : Option (Int) := fcs_Step.l0 k (Go.bits .xor .u16 a0 (IntKind.u16.wrap (a1))) 0
theorem fcs_Step.mono_l : ∀ k, (∀ y0 y1, LeO (fcs_Step.l0 k y0 y1) (fcs_Step.l0 (k + 1) y0 y1))
  | 0 => fun _ _ r h => by simp [fcs_Step.l0] at h
  | k + 1 => by
    have ih0 := fcs_Step.mono_l k
    · intro y0 y1
      unfold fcs_Step.l0
      repeat' first
      | (with_reducible exact ih0 _ _)
      | (with_reducible exact LeO.refl _)
      | (with_reducible exact LeO.none _)
      | (with_reducible refine LeO.ite ?_ ?_)
      | (with_reducible refine LeO.bind ?_ (fun _ => ?_))
      | exact ih0 _ _
      | exact LeO.none _
      | refine LeO.ite ?_ ?_
      | refine LeO.bind ?_ (fun _ => ?_)
theorem fcs_Step.mono : ∀ a0 a1 k, LeO (fcs_Step.f k a0 a1) (fcs_Step.f (k + 1) a0 a1) := by
  intro a0 a1 k
  have ih0 := fcs_Step.mono_l k
  unfold fcs_Step.f
  repeat' first
      | (with_reducible exact ih0 _ _)
      | (with_reducible exact LeO.refl _)
      | (with_reducible exact LeO.none _)
      | (with_reducible refine LeO.ite ?_ ?_)
      | (with_reducible refine LeO.bind ?_ (fun _ => ?_))
      | exact ih0 _ _
      | exact LeO.none _
      | refine LeO.ite ?_ ?_
      | refine LeO.bind ?_ (fun _ => ?_)
set_option maxHeartbeats 8000000 in
set_option maxRecDepth 100000 in
theorem fcs_Step.calls (k : Nat) (a0 : Int) (a1 : Int) (r : Int) (w : World) (h : fcs_Step.f k a0 a1 = some r) :
    Calls Try.prog 12 #[.int .u16 a0, .int .u8 a1] w fun e w' => e = .returned (.int .u16 r) ∧ Drawn0 w w' := by
  have H : (fcs_Step.l0 k (Go.bits .xor .u16 a0 (IntKind.u16.wrap (a1))) 0) = some r := h
  clear h
  have H' := Aside0.mk H
  clear H
  go_enter Try.func12, Try.ntmps12
  go_wp2
  go_loopg [0, 9] k (fun kq v0 v9 w' => ∃ (x0_1 : Int) (x9_1 : Int), v0 = .int .u16 x0_1 ∧ v9 = .int .i64 x9_1 ∧ Aside0 (fcs_Step.l0 kq x0_1 x9_1 = some r) ∧ Aside0 (kq ≤ k) ∧ Drawn0 w w')
  case atStart => exact ⟨(Go.bits .xor .u16 a0 (IntKind.u16.wrap (a1))), (0), (by first | rfl | (simp; done) | (simp [*]; done)), (by first | rfl | (simp; done) | (simp [*]; done)), H', ⟨Nat.le_refl _⟩, by repeat (first | exact Drawn0.refl _ | apply Drawn0.step)⟩
  case round =>
    clear H'
    try clear c1
    try clear p2
    obtain ⟨x0_1, x9_1, rfl, rfl, HA, HK1, ⟨m1, rfl⟩⟩ := hrel
    cases gk with
    | zero => exact absurd HA.out (by simp [fcs_Step.l0])
    | succ k1 =>
      have H := HA.out
      clear HA
      simp only [fcs_Step.l0] at H
      by_cases c3 : x9_1 < 8
      · rw [if_pos c3] at H
        have c3b0 : decide (x9_1 < 8) = true := decide_eq_true c3
        clear c3
        have H' := Aside0.mk H
        clear H
        go_wp2
        go_roundg k1
        case measure => have := HK1.out; omega
        case rel => exact ⟨(Go.bits .xor .u16 (x0_1 / 2) (Go.bits .and .u16 33800 (IntKind.u16.wrap (-(Go.bits .and .u16 x0_1 1))))), (wrap64 (x9_1 + 1)), (by first | rfl | (simp; done) | (simp [*]; done)), (by first | rfl | (simp; done) | (simp [*]; done)), H', ⟨by have := HK1.out; omega⟩, by repeat (first | exact Drawn0.refl _ | apply Drawn0.step)⟩
      · rw [if_neg c3] at H
        have c3b0 : decide (x9_1 < 8) = false := decide_eq_false c3
        clear c3
        obtain rfl := Option.some.inj H
        go_wp2
        go_ret
        exact ⟨by first | rfl | (simp; done) | (simp [*]; done), by repeat (first | exact Drawn0.refl _ | apply Drawn0.step)⟩

/-! ### fcs_On: function 14 -/
def fcs_On.l0 : Nat → Int → List Int → Int → Int → Option (Int)
  | 0, _, _, _, _ => none
  | k + 1, x0, x7, x8, x9 => if x9 < x8 then (if 0 ≤ x9 then (if x9 < (x7.length : Int) then ((fcs_Step.f k x0 (rd x7 x9)).bind fun t102 => (fcs_On.l0 k t102 x7 x8 (wrap64 (x9 + 1)))) else (none)) else (none)) else (some x0)
def fcs_On.f (k : Nat) (a0 : Int) (l1 : List Int) : Option (Int) := fcs_On.l0 k a0 l1 (l1.length : Int) 0
theorem fcs_On.mono_l : ∀ k, (∀ y0 y1 y2 y3, LeO (fcs_On.l0 k y0 y1 y2 y3) (fcs_On.l0 (k + 1) y0 y1 y2 y3))
  | 0 => fun _ _ _ _ r h => by simp [fcs_On.l0] at h
  | k + 1 => by
    have ih0 := fcs_On.mono_l k
    · intro y0 y1 y2 y3
      unfold fcs_On.l0
      repeat' first
      | (with_reducible exact ih0 _ _ _ _)
      | (with_reducible exact fcs_Step.mono _ _ _)
      | (with_reducible exact LeO.refl _)
      | (with_reducible exact LeO.none _)
      | (with_reducible refine LeO.ite ?_ ?_)
      | (with_reducible refine LeO.bind ?_ (fun _ => ?_))
      | exact ih0 _ _ _ _
      | exact fcs_Step.mono _ _ _
      | exact LeO.none _
      | refine LeO.ite ?_ ?_
      | refine LeO.bind ?_ (fun _ => ?_)
theorem fcs_On.mono : ∀ a0 a1 k, LeO (fcs_On.f k a0 a1) (fcs_On.f (k + 1) a0 a1) := by
  intro a0 a1 k
  have ih0 := fcs_On.mono_l k
  unfold fcs_On.f
  repeat' first
      | (with_reducible exact ih0 _ _ _ _)
      | (with_reducible exact fcs_Step.mono _ _ _)
      | (with_reducible exact LeO.refl _)
      | (with_reducible exact LeO.none _)
      | (with_reducible refine LeO.ite ?_ ?_)
      | (with_reducible refine LeO.bind ?_ (fun _ => ?_))
      | exact ih0 _ _ _ _
      | exact fcs_Step.mono _ _ _
      | exact LeO.none _
      | refine LeO.ite ?_ ?_
      | refine LeO.bind ?_ (fun _ => ?_)
set_option maxHeartbeats 8000000 in
set_option maxRecDepth 100000 in
theorem fcs_On.calls (k : Nat) (a0 : Int) (A1 : Option Addr) (c1 : Nat) (l1 : List Int) (r : Int) (w : World) (hr1 : Kd.C (Kd.int .u8) w A1 l1.length l1) (hc1 : l1.length ≤ c1) (h : fcs_On.f k a0 l1 = some r) :
    Calls Try.prog 14 #[.int .u16 a0, .slice A1 l1.length c1] w fun e w' => e = .returned (.int .u16 r) ∧ Drawn0 w w' := by
  have HR1 := Aside0.mk hr1
  have HC1 := Aside0.mk hc1
  clear hr1 hc1
  have H : (fcs_On.l0 k a0 l1 (l1.length : Int) 0) = some r := h
  clear h
  have H' := Aside0.mk H
  clear H
  go_enter Try.func14, Try.ntmps14
  go_wp2
  go_loopg [0, 9] k (fun kq v0 v9 w' => ∃ (x0_1 : Int) (x9_1 : Int), v0 = .int .u16 x0_1 ∧ v9 = .int .i64 x9_1 ∧ Aside0 (fcs_On.l0 kq x0_1 l1 (l1.length : Int) x9_1 = some r) ∧ Aside0 (kq ≤ k) ∧ Drawn0 w w')
  case atStart => exact ⟨(a0), (0), (by first | rfl | (simp; done) | (simp [*]; done)), (by first | rfl | (simp; done) | (simp [*]; done)), H', ⟨Nat.le_refl _⟩, by repeat (first | exact Drawn0.refl _ | apply Drawn0.step)⟩
  case round =>
    clear H'
    try clear c1
    try clear p2
    obtain ⟨x0_1, x9_1, rfl, rfl, HA, HK1, ⟨m1, rfl⟩⟩ := hrel
    cases gk with
    | zero => exact absurd HA.out (by simp [fcs_On.l0])
    | succ k1 =>
      have H := HA.out
      clear HA
      simp only [fcs_On.l0] at H
      by_cases c3 : x9_1 < (l1.length : Int)
      · rw [if_pos c3] at H
        have c3b0 : decide (x9_1 < (l1.length : Int)) = true := decide_eq_true c3
        clear c3
        by_cases c4 : 0 ≤ x9_1
        · rw [if_pos c4] at H
          have c4b0 : decide (0 ≤ x9_1) = true := decide_eq_true c4
          clear c4
          by_cases c5 : x9_1 < (l1.length : Int)
          · rw [if_pos c5] at H
            have c5b0 : decide (x9_1 < (l1.length : Int)) = true := decide_eq_true c5
            clear c5
            replace H := Option.bind_eq_some_iff.mp H
            obtain ⟨t102, A60, H⟩ := H
            replace H : (fcs_On.l0 k1 t102 l1 (l1.length : Int) (wrap64 (x9_1 + 1))) = some r := H
            have A6 := Aside0.mk A60
            clear A60
            have H' := Aside0.mk H
            clear H
            have p101 : 0 ≤ (x9_1 : Int) := of_decide_eq_true (by first | (with_reducible assumption) | assumption)
            have q101 : x9_1 < (l1.length : Int) := of_decide_eq_true (by first | (with_reducible assumption) | assumption)
            obtain ⟨ad101, e101, hx101_0⟩ := Kd.at_int HR1.out x9_1 p101 q101
            cases e101
            replace p101 := eq_true p101
            replace q101 := eq_true q101
            go_wp2_with (first | ((with_reducible refine gate_callee (f := 12) rfl ?_); refine goesL_ (some 15) rfl rfl Try.func12 (by kernel_rfl) rfl #[.int .u16 x0_1, .int .u8 (rd l1 x9_1)] rfl (by (try simp only [List.map_toArray, List.map_cons, List.map_nil]); first | done | rfl | (simp only [List.length_drop, List.length_take]; rfl)) ?_; (with_reducible refine (fcs_Step.calls k1 x0_1 (rd l1 x9_1) t102 _ A6.out).mono ?_); rintro e w' ⟨rfl, ⟨nd, rfl⟩⟩; refine ⟨_, rfl, ?_⟩))
            go_roundg k1
            case measure => have := HK1.out; omega
            case rel => exact ⟨(t102), (wrap64 (x9_1 + 1)), (by first | rfl | (simp; done) | (simp [*]; done)), (by first | rfl | (simp; done) | (simp [*]; done)), H', ⟨by have := HK1.out; omega⟩, by repeat (first | exact Drawn0.refl _ | apply Drawn0.step)⟩
          · rw [if_neg c5] at H
            exact absurd H (by simp)
        · rw [if_neg c4] at H
          exact absurd H (by simp)
      · rw [if_neg c3] at H
        have c3b0 : decide (x9_1 < (l1.length : Int)) = false := decide_eq_false c3
        clear c3
        obtain rfl := Option.some.inj H
        go_wp2
        go_ret
        exact ⟨by first | rfl | (simp; done) | (simp [*]; done), by repeat (first | exact Drawn0.refl _ | apply Drawn0.step)⟩

/-! ### fcs_Good: function 19 -/
def fcs_Good.f (k : Nat) (l0 : List Int) : Option (Bool) := if (l0.length : Int) ≥ 2 then ((fcs_On.f k 65535 l0).bind fun t103 => (some (t103 == 61624))) else (some false)
theorem fcs_Good.mono : ∀ a0 k, LeO (fcs_Good.f k a0) (fcs_Good.f (k + 1) a0) := by
  intro a0 k
  unfold fcs_Good.f
  repeat' first
      | (with_reducible exact fcs_On.mono _ _ _)
      | (with_reducible exact LeO.refl _)
      | (with_reducible exact LeO.none _)
      | (with_reducible refine LeO.ite ?_ ?_)
      | (with_reducible refine LeO.bind ?_ (fun _ => ?_))
      | exact fcs_On.mono _ _ _
      | exact LeO.none _
      | refine LeO.ite ?_ ?_
      | refine LeO.bind ?_ (fun _ => ?_)
set_option maxHeartbeats 8000000 in
set_option maxRecDepth 100000 in
theorem fcs_Good.calls (k : Nat) (A0 : Option Addr) (c0 : Nat) (l0 : List Int) (r : Bool) (w : World) (hr0 : Kd.C (Kd.int .u8) w A0 l0.length l0) (hc0 : l0.length ≤ c0) (h : fcs_Good.f k l0 = some r) :
    Calls Try.prog 19 #[.slice A0 l0.length c0] w fun e w' => e = .returned (.bool r) ∧ Drawn0 w w' := by
  have HR0 := Aside0.mk hr0
  have HC0 := Aside0.mk hc0
  clear hr0 hc0
  have H : (if (l0.length : Int) ≥ 2 then ((fcs_On.f k 65535 l0).bind fun t103 => (some (t103 == 61624))) else (some false)) = some r := h
  clear h
  by_cases c2 : (l0.length : Int) ≥ 2
  · rw [if_pos c2] at H
    have c2b0 : decide (2 ≤ (l0.length : Int)) = true := decide_eq_true c2
    have c2b1 : decide (2 ≤ l0.length) = true := decide_eq_true (by omega)
    clear c2
    replace H := Option.bind_eq_some_iff.mp H
    obtain ⟨t103, A30, H⟩ := H
    replace H : (some (t103 == 61624)) = some r := H
    have A3 := Aside0.mk A30
    clear A30
    obtain rfl := Option.some.inj H
    go_enter Try.func19, Try.ntmps19
    go_wp2_with (first | (go_at_call 14; (with_reducible refine (fcs_On.calls k 65535 _ _ l0 t103 _ ?side1 ?side2 A3.out).mono ?_); (case side1 => repeat (first | exact HR0.out | (with_reducible refine Kd.C_alloc ?_ _) | (with_reducible refine Kd.C_drewN ?_ _) | (with_reducible refine Kd.C_drew ?_))); (case side2 => exact HC0.out); rintro e w' ⟨rfl, ⟨nd, rfl⟩⟩))
    go_ret
    exact ⟨by first | rfl | (simp; done) | (simp [*]; done), by repeat (first | exact Drawn0.refl _ | apply Drawn0.step)⟩
  · rw [if_neg c2] at H
    have c2b0 : decide (2 ≤ (l0.length : Int)) = false := decide_eq_false c2
    have c2b1 : decide (2 ≤ l0.length) = false := decide_eq_false (by omega)
    clear c2
    obtain rfl := Option.some.inj H
    go_enter Try.func19, Try.ntmps19
    go_wp2
    go_ret
    exact ⟨by first | rfl | (simp; done) | (simp [*]; done), by repeat (first | exact Drawn0.refl _ | apply Drawn0.step)⟩

end Go.Proofs.Ytfnmlhcpolfjaaa.Q

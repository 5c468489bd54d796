-- written by this session's own program (wip/tools/myprint.py), over the kit's print
import Derived.Test.YtangahcilefelaaQx0
namespace Go.Proofs.Ytangahcilefelaa.Q
open Go.RowKit Go.Proofs.YtangahcilefelaaW.PrintWords Go.Proofs.YtangahcilefelaaW.PrintLast Go.Proofs.YtangahcilefelaaW.PrintMore
open Go.Proofs.YtangahcilefelaaV
attribute [local go_sem] max2_int min2_int max_two min_two max_three min_three max_four min_four   -- for this text's walks alone
set_option linter.unusedVariables false
set_option linter.unusedSimpArgs false

/-! stuff.Escape's own closure: is a byte escaped? The number whose bits tell it stands in memory. -/
def stuff_Escape_1.f (a0 : Int) (a1 : Int) : Option (Bool) := if a0 = 126 then some true else if a0 = 125 then some true else if a0 < 32 then (if 0 ≤ a0 then some ((Go.bits .and .u32 (shr .u32 a1 a0) 1) == 1) else none) else some false
set_option maxHeartbeats 8000000 in
set_option maxRecDepth 100000 in
theorem stuff_Escape_1.calls (a0 : Int) (g1 : Nat) (a1 : Int) (r : Bool) (w : World) (hb1 : w.heap[g1]? = some (.cells #[.int .u32 a1] 44 (0, 0))) (h : stuff_Escape_1.f a0 a1 = some r) :
    Calls Try.prog 45 #[.int .u8 a0, .pointer (some ⟨g1, 0, none⟩)] w fun e w' => e = .returned (.bool r) ∧ Drawn0 w w' := by
  have hcz := (blk_cell hb1 0).trans rfl
  have hfz := blk_frozen hb1 0
  clear hb1
  have H := h
  clear h
  unfold stuff_Escape_1.f at H
  by_cases c3 : a0 = 126
  · rw [if_pos c3] at H
    have c3b0 : (a0 == 126) = true := beq_iff_eq.mpr c3
    have c3b1 : (a0 != 126) = false := bne_eq_false_iff_eq.mpr c3
    clear c3
    obtain rfl := Option.some.inj H
    go_enter Try.func45, Try.ntmps45
    go_wp2
    go_ret
    exact ⟨by first | rfl | (simp; done) | (simp [*]; done), by repeat (first | exact Drawn0.refl _ | apply Drawn0.step)⟩
  · rw [if_neg c3] at H
    have c3b0 : (a0 == 126) = false := beq_eq_false_iff_ne.mpr c3
    have c3b1 : (a0 != 126) = true := bne_iff_ne.mpr c3
    by_cases c4 : a0 = 125
    · rw [if_pos c4] at H
      have c4b0 : (a0 == 125) = true := beq_iff_eq.mpr c4
      have c4b1 : (a0 != 125) = false := bne_eq_false_iff_eq.mpr c4
      clear c4
      obtain rfl := Option.some.inj H
      go_enter Try.func45, Try.ntmps45
      go_wp2
      go_ret
      exact ⟨by first | rfl | (simp; done) | (simp [*]; done), by repeat (first | exact Drawn0.refl _ | apply Drawn0.step)⟩
    · rw [if_neg c4] at H
      have c4b0 : (a0 == 125) = false := beq_eq_false_iff_ne.mpr c4
      have c4b1 : (a0 != 125) = true := bne_iff_ne.mpr c4
      by_cases c5 : a0 < 32
      · rw [if_pos c5] at H
        have c5b0 : decide (a0 < 32) = true := decide_eq_true c5
        clear c5
        by_cases c6 : 0 ≤ a0
        · rw [if_pos c6] at H
          have c6b0 := eq_true c6
          have c6b1 : decide (0 ≤ a0) = true := decide_eq_true c6
          clear c6
          obtain ⟨ji7, hji7⟩ : ∃ j_ : Int, (shr .u32 a1 a0) = j_ := ⟨_, rfl⟩
          rw [hji7] at H
          have hji7_ : (a1 / 2 ^ min a0.toNat 32) = ji7 := hji7
          have hji7z : a0 ≤ 32 → (a1 / 2 ^ a0.toNat) = ji7 := shr_small hji7
          obtain rfl := Option.some.inj H
          go_enter Try.func45, Try.ntmps45
          go_wp2
          go_ret
          exact ⟨by first | rfl | (simp only [← hji7]; rfl) | (simp [*]; done), by repeat (first | exact Drawn0.refl _ | apply Drawn0.step)⟩
        · rw [if_neg c6] at H
          exact absurd H (by simp)
      · rw [if_neg c5] at H
        have c5b0 : decide (a0 < 32) = false := decide_eq_false c5
        clear c5
        obtain rfl := Option.some.inj H
        go_enter Try.func45, Try.ntmps45
        go_wp2
        go_ret
        exact ⟨by first | rfl | (simp; done) | (simp [*]; done), by repeat (first | exact Drawn0.refl _ | apply Drawn0.step)⟩

end Go.Proofs.Ytangahcilefelaa.Q

/- A protocol's codes are a whole row from one on; another protocol has none. -/
import Derived.Test.YtgijfaecplodfaaSayPackCodes
import Derived.Test.YtgijfaecplodfaaBase
import Derived.Test.YtgijfaecplodfaaShown
namespace Go.Proofs.Ytgijfaecplodfaa.Pure
set_option linter.unusedVariables false
open Go Go.RowKit Go.Proofs.Ytgijfaecplodfaa.Q Go.Proofs.YtgijfaecplodfaaK Go.Proofs.YtgijfaecplodfaaW.PrintWords Go.Proofs.YtgijfaecplodfaaW.PrintLast Go.Proofs.YtgijfaecplodfaaW.PrintMore

theorem PackCodes : portreevelaw09_PackCodes.Pure := by
  intro p c hp hc
  refine ⟨4000, ?_⟩
  rw [wf_u16] at hp
  rw [wf_u8] at hc
  unfold portreevelaw09_PackCodes.f
  rw [shown_true _ (by omega), Option.bind_some]
  have hK : ∀ a b : Int, pack_Known.f a b = some (decide ((a = 49185 ∧ 1 ≤ b ∧ b ≤ 11) ∨ (a = 49699 ∧ 1 ≤ b ∧ b ≤ 4) ∨ (a = 32801 ∧ 1 ≤ b ∧ b ≤ 7))) := fun _ _ => rfl
  have hj : ∀ (b : Bool) (k : Nat), portreevelaw09_PackCodes.j0 (k + 1) p true (decide ((p = 49185 ∧ 1 ≤ c ∧ c ≤ 11) ∨ (p = 49699 ∧ 1 ≤ c ∧ c ≤ 4) ∨ (p = 32801 ∧ 1 ≤ c ∧ c ≤ 7))) b = some (!b) := by
    intro b k
    rw [portreevelaw09_PackCodes.j0]
    cases b with
    | true => rfl
    | false =>
      rw [if_neg (by simp)]
      simp only [hK, Option.bind_some, if_true]
      by_cases e1 : p = 49185
      · rw [if_pos e1]; simp [e1]
      by_cases e2 : p = 49699
      · rw [if_neg e1, if_pos e2]; simp [e2]
      by_cases e3 : p = 32801
      · rw [if_neg e1, if_neg e2, if_pos e3]; simp [e3]
      · rw [if_neg e1, if_neg e2, if_neg e3, if_neg (by simp [e1, e2, e3])]; rfl
  rw [hK p c, Option.bind_some, hK p 0, Option.bind_some, if_neg (by simp)]
  have h32 : ∀ b : Int, decide ((32801 = (49185 : Int) ∧ 1 ≤ b ∧ b ≤ 11) ∨ (32801 = (49699 : Int) ∧ 1 ≤ b ∧ b ≤ 4) ∨ (32801 = (32801 : Int) ∧ 1 ≤ b ∧ b ≤ 7)) = decide (1 ≤ b ∧ b ≤ 7) := by intro b; simp
  have h49 : ∀ b : Int, decide ((49185 = (49185 : Int) ∧ 1 ≤ b ∧ b ≤ 11) ∨ (49185 = (49699 : Int) ∧ 1 ≤ b ∧ b ≤ 4) ∨ (49185 = (32801 : Int) ∧ 1 ≤ b ∧ b ≤ 7)) = decide (1 ≤ b ∧ b ≤ 11) := by intro b; simp
  have htail : (pack_Known.f 32801 c).bind (fun t306 => (if t306 = true then ((pack_Known.f 49185 c).bind fun t307 => (portreevelaw09_PackCodes.j0 4000 p true (decide ((p = 49185 ∧ 1 ≤ c ∧ c ≤ 11) ∨ (p = 49699 ∧ 1 ≤ c ∧ c ≤ 4) ∨ (p = 32801 ∧ 1 ≤ c ∧ c ≤ 7))) (!t307))) else (portreevelaw09_PackCodes.j0 4000 p true (decide ((p = 49185 ∧ 1 ≤ c ∧ c ≤ 11) ∨ (p = 49699 ∧ 1 ≤ c ∧ c ≤ 4) ∨ (p = 32801 ∧ 1 ≤ c ∧ c ≤ 7))) false))) = some true := by
    rw [hK, Option.bind_some, h32]
    by_cases e : 1 ≤ c ∧ c ≤ 7
    · rw [if_pos (decide_eq_true e), hK, Option.bind_some, h49, decide_eq_true (show 1 ≤ c ∧ c ≤ 11 by omega), hj]
      rfl
    · rw [if_neg (by simpa using e), hj]
      rfl
  by_cases h1 : c > 1
  · rw [if_pos h1]
    by_cases hk : (p = 49185 ∧ 1 ≤ c ∧ c ≤ 11) ∨ (p = 49699 ∧ 1 ≤ c ∧ c ≤ 4) ∨ (p = 32801 ∧ 1 ≤ c ∧ c ≤ 7)
    · rw [if_pos (decide_eq_true hk), hK p ((c - 1) % 256), Option.bind_some, if_pos (decide_eq_true (by omega))]
      exact htail
    · rw [if_neg (by simpa using hk)]
      exact htail
  · rw [if_neg h1]
    exact htail
end Go.Proofs.Ytgijfaecplodfaa.Pure

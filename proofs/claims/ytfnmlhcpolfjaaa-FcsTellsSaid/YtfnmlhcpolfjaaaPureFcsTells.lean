/- A step, steps, and bytes with their check sequence behind and without, are as the document says. -/
import Derived.Test.YtfnmlhcpolfjaaaSayFcsTells
import Derived.Test.YtfnmlhcpolfjaaaBase
namespace Go.Proofs.Ytfnmlhcpolfjaaa.Pure
set_option linter.unusedVariables false
open Go Go.RowKit Go.Proofs.Ytfnmlhcpolfjaaa.Q Go.Proofs.YtfnmlhcpolfjaaaK Go.Proofs.YtfnmlhcpolfjaaaCrc Go.Proofs.YtfnmlhcpolfjaaaW.PrintWords Go.Proofs.YtfnmlhcpolfjaaaW.PrintLast Go.Proofs.YtfnmlhcpolfjaaaW.PrintMore

theorem FcsTells : portreevelaw01_FcsTells.Pure := by
  intro s c l hs hc hl
  refine ⟨4000, ?_⟩
  have hB := B_of hl.2
  rw [wf_u16] at hs
  rw [wf_u8] at hc
  obtain ⟨s, rfl⟩ : ∃ n : Nat, s = n := ⟨s.toNat, by omega⟩
  obtain ⟨c, rfl⟩ : ∃ n : Nat, c = n := ⟨c.toNat, by omega⟩
  unfold portreevelaw01_FcsTells.f
  rw [shown_true _ (by omega), Option.bind_some]
  by_cases h : (l.length : Int) > 2000
  · rw [if_pos h]
  · rw [if_neg h, cut_own _ l hB (by omega) (by omega), Option.bind_some, rcut _ l hB (by omega) (by omega), Option.bind_some, if_pos rfl]
    rw [step _ s c (by omega) (by omega) (by omega), Option.bind_some, rstep _ s c (by omega) (by omega) (by omega), Option.bind_some, if_pos rfl]
    rw [on_own _ s l hB (by omega) (by omega) (by omega), Option.bind_some, ron _ s l hB (by omega) (by omega) (by omega), Option.bind_some, if_pos rfl]
    rw [put_own _ l hB (by omega) (by omega), Option.bind_some, rput _ l hB (by omega) (by omega), Option.bind_some, row _ _ _ (by rw [put_length]; omega) (by rw [put_length]; omega), Option.bind_some, if_pos (by simp)]
    rw [good_own _ l hB (by omega) (by omega), Option.bind_some, rgood _ l hB (by omega) (by omega), Option.bind_some, if_pos (by simp)]
    have hlen : ∀ x : List Int × Int, x = (if l.length < 2 then (([] : List Int), (2 : Int)) else if on 65535 (toN l) = 61624 then (l.take (l.length - 2), 0) else ([], 3)) → x.1.length ≤ 2000 := by
      rintro x rfl
      split
      · simp
      · split
        · rw [List.length_take]; omega
        · simp
    have := hlen _ rfl
    rw [row _ _ _ (by omega) (by omega), Option.bind_some, if_pos (by simp)]
    simp
end Go.Proofs.Ytfnmlhcpolfjaaa.Pure

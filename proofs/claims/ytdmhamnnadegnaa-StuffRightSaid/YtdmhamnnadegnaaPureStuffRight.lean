/- A line that is fed is right; too long a one stays so up to a flag. -/
import Derived.Test.YtdmhamnnadegnaaSayStuffRight
import Derived.Test.YtdmhamnnadegnaaBase
import Derived.Test.YtdmhamnnadegnaaBase2
import Derived.Test.YtdmhamnnadegnaaShown
import Derived.Test.YtdmhamnnadegnaaBase3
namespace Go.Proofs.Ytdmhamnnadegnaa.Pure
set_option linter.unusedVariables false
open Go Go.RowKit Go.Proofs.Ytdmhamnnadegnaa.Q Go.Proofs.YtdmhamnnadegnaaK Go.Proofs.YtdmhamnnadegnaaW.PrintWords Go.Proofs.YtdmhamnnadegnaaW.PrintLast Go.Proofs.YtdmhamnnadegnaaW.PrintMore

theorem StuffRight : portreevelaw07_StuffRight.Pure := by
  intro l a c hl hc
  refine ⟨40000, ?_⟩
  have hB := B_of hl.2
  rw [wf_u8] at hc
  unfold portreevelaw07_StuffRight.f
  rw [shown_true _ (by omega), Option.bind_some, right_own _ l a (by omega) (by omega), Option.bind_some]
  by_cases h : l.length ≤ 1508 ∧ (a = true → l.length = 0) ∧ 126 ∉ l
  · have hf := fd_length l a c h.1
    have hr := fd_right (l := l) (long := a) c h; unfold Ri at hr
    rw [if_pos (decide_eq_true h), feed_own _ l a c hB (by omega) (by omega), Option.bind_some, right_own _ _ _ (by omega) (by omega), Option.bind_some, if_pos (decide_eq_true hr)]
    have hj : portreevelaw07_StuffRight.j0 40000 c true (fd l a c).2.2.2 false l a (fd l a c).1 (fd l a c).2.1 = some true := by
      rw [portreevelaw07_StuffRight.j0, if_neg (by simp)]
      by_cases hc6 : c = 126
      · subst hc6
        have hg := fd_flag l a
        by_cases ha : a = true
        · have : (fd l a 126).2.2.2 = false := by
            unfold fd
            rw [if_pos rfl]
            split
            · rw [if_pos (Or.inl ha)]
            · rfl
          rw [if_pos ha, if_pos rfl, this, if_neg (by simp), hg.2]
          rfl
        · rw [if_neg ha, if_pos rfl, if_pos rfl]
      · have hn : (fd l a c).2.2.2 = false := by
          unfold fd
          rw [if_neg hc6]
          split <;> rfl
        rw [hn]
        by_cases ha : a = true
        · have : (fd l a c).2.1 = true := by
            unfold fd
            rw [if_neg hc6, if_pos (Or.inl ha)]
          rw [if_pos ha, if_pos rfl, if_neg (by simp), this]
          simp [hc6]
        · rw [if_neg ha, if_pos rfl, if_neg hc6, if_neg (by simp)]
          by_cases h8 : 1508 ≤ l.length
          · have : (fd l a c).2.1 = true := by
              unfold fd
              rw [if_neg hc6, if_pos (Or.inr h8)]
            rw [this, if_pos rfl, if_pos (by omega)]
          · have hx : fd l a c = (l ++ [c], false, [], false) := by
              unfold fd
              rw [if_neg hc6, if_neg (by rintro (h | h) <;> contradiction)]
            rw [hx, if_neg (by simp), w64 (by omega) (by omega)]
            simp
    by_cases hb : (fd l a c).2.2.2 = true
    · rw [if_pos hb]; exact hj
    · rw [if_neg hb, fd_none l a c (by simpa using hb)]; exact hj
  · rw [if_neg (by rw [decide_eq_false h]; simp)]
end Go.Proofs.Ytdmhamnnadegnaa.Pure

/- A line with a byte more, and which lines are the same, are as the document says. -/
import Derived.Test.YtdmhamnnadegnaaSayStuffFeeds
import Derived.Test.YtdmhamnnadegnaaBase
import Derived.Test.YtdmhamnnadegnaaBase2
import Derived.Test.YtdmhamnnadegnaaShown
import Derived.Test.YtdmhamnnadegnaaBase3
namespace Go.Proofs.Ytdmhamnnadegnaa.Pure
set_option linter.unusedVariables false
open Go Go.RowKit Go.Proofs.Ytdmhamnnadegnaa.Q Go.Proofs.YtdmhamnnadegnaaK Go.Proofs.YtdmhamnnadegnaaW.PrintWords Go.Proofs.YtdmhamnnadegnaaW.PrintLast Go.Proofs.YtdmhamnnadegnaaW.PrintMore

theorem StuffFeeds : portreevelaw07_StuffFeeds.Pure := by
  intro l a c m b hl hc hm
  refine ⟨40000, ?_⟩
  have hB := B_of hl.2
  have hM := B_of hm.2
  rw [wf_u8] at hc
  unfold portreevelaw07_StuffFeeds.f
  rw [shown_true _ (by omega), Option.bind_some, right_own _ l a (by omega) (by omega), Option.bind_some]
  by_cases h : l.length ≤ 1508 ∧ (a = true → l.length = 0) ∧ 126 ∉ l
  · rw [if_pos (decide_eq_true h), right_own _ m b (by omega) (by omega), Option.bind_some]
    by_cases h2 : m.length ≤ 1508 ∧ (b = true → m.length = 0) ∧ 126 ∉ m
    · have hf := fd_length l a c h.1
      rw [decide_eq_true h2, portreevelaw07_StuffFeeds.j0, if_neg (by simp), feed_own _ l a c hB (by omega) (by omega), Option.bind_some, rfeed _ l a c hB (by omega) (by omega), Option.bind_some, if_pos rfl, rsame _ _ _ _ _ (by omega) (by omega), Option.bind_some, if_pos (by simp), row _ _ _ (by omega) (by omega), Option.bind_some, if_pos (by simp), if_pos (by simp), stuff_same l a m b hB hM, Option.bind_some, rsame _ l a m b (by omega) (by omega), Option.bind_some]
      simp
    · rw [decide_eq_false h2, portreevelaw07_StuffFeeds.j0, if_pos (by simp)]
  · rw [if_neg (by rw [decide_eq_false h]; simp), portreevelaw07_StuffFeeds.j0, if_pos (by simp)]
end Go.Proofs.Ytdmhamnnadegnaa.Pure

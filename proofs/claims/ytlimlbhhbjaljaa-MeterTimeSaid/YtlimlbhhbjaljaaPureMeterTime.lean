/- What is counted changes nothing of when an interim is due; what ticks changes no octets. -/
import Derived.Test.YtlimlbhhbjaljaaSayMeterTime
import Derived.Test.YtlimlbhhbjaljaaBase
namespace Go.Proofs.Ytlimlbhhbjaljaa.Pure
set_option linter.unusedVariables false
open Go Go.RowKit Go.Proofs.Ytlimlbhhbjaljaa.Q Go.Proofs.YtlimlbhhbjaljaaK Go.Proofs.YtlimlbhhbjaljaaW.PrintWords Go.Proofs.YtlimlbhhbjaljaaW.PrintLast Go.Proofs.YtlimlbhhbjaljaaW.PrintMore

theorem MeterTime : portreevelaw17_MeterTime.Pure := by
  intro a b c i o ha hb hc hi ho
  refine ⟨10, ?_⟩
  unfold portreevelaw17_MeterTime.f
  rw [shown_true, Option.bind_some, right_ref, Option.bind_some]
  by_cases hg : 0 ≤ c ∧ c ≤ 6
  · rw [if_pos (by simpa using hg), tick _ _ _ hg.1 hg.2, Option.bind_some, count a b c i o ha hb hi ho, Option.bind_some, tick _ _ _ hg.1 hg.2, Option.bind_some, if_pos rfl]
    rw [if_pos (by simp), if_pos rfl, count a b _ i o ha hb hi ho, Option.bind_some, if_pos (by simp), if_pos rfl, if_pos rfl]
    unfold tk
    by_cases h0 : c = 0
    · subst h0
      simp
    · by_cases h1 : c = 1
      · subst h1
        simp
      · simp only [if_neg h0, if_neg h1]
        rw [if_neg (by simp), if_pos (by omega)]
  · rw [if_neg (by simpa using hg)]
end Go.Proofs.Ytlimlbhhbjaljaa.Pure

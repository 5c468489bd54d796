/- Which meters are right, what is counted, a tick, an interim and a stop, are as the document says. -/
import Derived.Test.YtlimlbhhbjaljaaSayMeterTells
import Derived.Test.YtlimlbhhbjaljaaBase
namespace Go.Proofs.Ytlimlbhhbjaljaa.Pure
set_option linter.unusedVariables false
open Go Go.RowKit Go.Proofs.Ytlimlbhhbjaljaa.Q Go.Proofs.YtlimlbhhbjaljaaK Go.Proofs.YtlimlbhhbjaljaaW.PrintWords Go.Proofs.YtlimlbhhbjaljaaW.PrintLast

theorem MeterTells : portreevelaw17_MeterTells.Pure := by
  intro a b c i o id ca ha hb hc hi ho hid hca
  refine ⟨10, ?_⟩
  unfold portreevelaw17_MeterTells.f
  rw [shown_true, Option.bind_some, right_ref, Option.bind_some, right_own, Option.bind_some, if_neg (by simp)]
  simp only [meter_New.f, portreeveref17_New.f, Option.bind_some]
  simp only [portreevelaw17_MeterTells.j0]
  rw [if_neg (by decide)]
  by_cases hr : 0 ≤ c ∧ c ≤ 6
  · rw [if_pos (by simpa using hr), tick _ _ _ hr.1 hr.2, Option.bind_some, tick_ref _ _ _ hr.1 hr.2, Option.bind_some, if_pos trivial, count a b c i o ha hb hi ho, Option.bind_some, count_ref a b c i o ha hb hi ho, Option.bind_some]
    simp [meter_Note.f, portreeveref17_Note.f, meter_Stop.f, portreeveref17_Stop.f]
  · rw [if_neg (by simpa using hr)]
end Go.Proofs.Ytlimlbhhbjaljaa.Pure

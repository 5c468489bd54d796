/- Frames that are sent, one behind the other, are taken, in order, each with its own way. -/
import Derived.Test.YtangahcilefelaaSayFrameRow
import Derived.Test.YtangahcilefelaaBase
import Derived.Test.YtangahcilefelaaBase2
import Derived.Test.YtangahcilefelaaBase3
import Derived.Test.YtangahcilefelaaBase5
import Derived.Test.YtangahcilefelaaBase6
namespace Go.Proofs.Ytangahcilefelaa.Pure
set_option linter.unusedVariables false
open Go Go.RowKit Go.Proofs.Ytangahcilefelaa.Q Go.Proofs.YtangahcilefelaaK Go.Proofs.YtangahcilefelaaCrc Go.Proofs.YtangahcilefelaaW.PrintWords Go.Proofs.YtangahcilefelaaW.PrintLast Go.Proofs.YtangahcilefelaaW.PrintMore

theorem FrameRow : portreevelaw08_FrameRow.Pure := by
  intro l m s hl hm hs
  refine ⟨40000, ?_⟩
  rw [wf_u32] at hm
  rw [wf_u16] at hs
  have hw : ∀ x ∈ l, W25 x := fun x hx => by
    have := hl.2 x hx
    exact ⟨wf_u16.1 this.1, B_of this.2.2⟩
  unfold portreevelaw08_FrameRow.f
  rw [shown_true _ (by omega), Option.bind_some]
  by_cases h : (l.length : Int) > 12
  · rw [if_pos h]
  · rw [if_neg h]
    have := row_loop l m s hm hw (by omega) l.length 40000 0 [] [] (by omega) (by omega) rfl rfl (by simp) rfl
    simpa using this
end Go.Proofs.Ytangahcilefelaa.Pure

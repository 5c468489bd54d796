/- Bytes escaped, plain and sent, and all frames, are as the document says. -/
import Derived.Test.YtdmhamnnadegnaaSayStuffTells
import Derived.Test.YtdmhamnnadegnaaBase
import Derived.Test.YtdmhamnnadegnaaBase2
import Derived.Test.YtdmhamnnadegnaaShown
import Derived.Test.YtdmhamnnadegnaaBase3
namespace Go.Proofs.Ytdmhamnnadegnaa.Pure
set_option linter.unusedVariables false
open Go Go.RowKit Go.Proofs.Ytdmhamnnadegnaa.Q Go.Proofs.YtdmhamnnadegnaaK Go.Proofs.YtdmhamnnadegnaaW.PrintWords Go.Proofs.YtdmhamnnadegnaaW.PrintLast Go.Proofs.YtdmhamnnadegnaaW.PrintMore

theorem StuffTells : portreevelaw07_StuffTells.Pure := by
  intro l a hl ha
  refine ⟨40000, ?_⟩
  have hB := B_of hl.2
  rw [wf_u32] at ha
  unfold portreevelaw07_StuffTells.f
  rw [shown_true _ (by omega), Option.bind_some]
  by_cases h : (l.length : Int) > 4000
  · rw [if_pos h]
  have hp : (pres [] (Pl false l)).1.length ≤ 4000 := by
    rw [pres_nil]
    split
    · next p hp => have := Pl_length _ _ _ hp; simp only; omega
    · simp
  have hE := E_length a l
  have hS := send_length a l
  have hg := Sg_bound l []
  rw [if_neg h, plain_own _ l hB (by omega) (by omega), Option.bind_some, rplain _ l hB (by omega) (by omega), Option.bind_some, row _ _ _ (by omega) (by omega), Option.bind_some, if_pos (by simp), portreevelaw07_StuffTells.j0, if_neg (by simp), if_pos rfl, escape_own _ a ha l hB (by omega) (by omega), Option.bind_some, rescape _ a ha l hB (by omega) (by omega), Option.bind_some, row _ _ _ (by omega) (by omega), Option.bind_some, if_pos (by simp)]
  rw [send_own _ a ha l hB (by omega) (by omega), Option.bind_some, rsend _ a ha l hB (by omega) (by omega), Option.bind_some, row _ _ _ (by omega) (by omega), Option.bind_some, if_pos (by simp), all_own _ l hB (by omega) (by omega), Option.bind_some, rall _ l hB (by omega) (by omega), Option.bind_some, frames _ _ _ 1508 (by omega) (by omega) hg.1 (by omega), Option.bind_some]
  simp
end Go.Proofs.Ytdmhamnnadegnaa.Pure

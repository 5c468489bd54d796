/- Bytes, read packets and sameness are as the document says. -/
import Derived.Test.YtgijfaecplodfaaSayPackTells
import Derived.Test.YtgijfaecplodfaaBase
import Derived.Test.YtgijfaecplodfaaShown
namespace Go.Proofs.Ytgijfaecplodfaa.Pure
set_option linter.unusedVariables false
open Go Go.RowKit Go.Proofs.Ytgijfaecplodfaa.Q Go.Proofs.YtgijfaecplodfaaK Go.Proofs.YtgijfaecplodfaaW.PrintWords Go.Proofs.YtgijfaecplodfaaW.PrintLast Go.Proofs.YtgijfaecplodfaaW.PrintMore

theorem PackTells : portreevelaw09_PackTells.Pure := by
  intro c i d l hc hi hd hl
  refine ⟨4000, ?_⟩
  have hB := B_of hd.2
  have hC := B_of hl.2
  rw [wf_u8] at hc hi
  unfold portreevelaw09_PackTells.f
  rw [shown_true _ (by omega), Option.bind_some]
  by_cases h : (d.length : Int) > 2000
  · rw [if_pos h, portreevelaw09_PackTells.j0, if_pos rfl]
  rw [if_neg h, portreevelaw09_PackTells.j0]
  by_cases h2 : (l.length : Int) > 2000
  · rw [if_pos (decide_eq_true h2)]
  have := pb_short c i d
  have := pr_length l
  rw [if_neg (by simpa using h2), bytes_own c i d (by omega), Option.bind_some, rbytes c i d (by omega), Option.bind_some, read_own _ l hC (by omega) (by omega), Option.bind_some, rread _ l hC (by omega) (by omega), Option.bind_some, if_pos rfl]
  rw [row _ _ _ (by omega) (by omega), Option.bind_some, if_pos (by simp), if_pos rfl, rsame _ _ _ _ _ _ _ (by omega) (by omega), Option.bind_some, if_pos (by simp), if_pos rfl]
  rw [same_own c i d _ _ _ hB (pr_B l hC), Option.bind_some, rsame _ c i d _ _ _ (by omega) (by omega), Option.bind_some]
  simp
end Go.Proofs.Ytgijfaecplodfaa.Pure

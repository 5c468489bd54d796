/- Two packets have the same bytes just when they are the same; a reject holds the packet. -/
import Derived.Test.YtgijfaecplodfaaSayPackApart
import Derived.Test.YtgijfaecplodfaaBase
import Derived.Test.YtgijfaecplodfaaShown
namespace Go.Proofs.Ytgijfaecplodfaa.Pure
set_option linter.unusedVariables false
open Go Go.RowKit Go.Proofs.Ytgijfaecplodfaa.Q Go.Proofs.YtgijfaecplodfaaK Go.Proofs.YtgijfaecplodfaaW.PrintWords Go.Proofs.YtgijfaecplodfaaW.PrintLast Go.Proofs.YtgijfaecplodfaaW.PrintMore

theorem PackApart : portreevelaw09_PackApart.Pure := by
  intro c i d c' i' d' id hc hi hd hc' hi' hd' hid
  refine ⟨4000, ?_⟩
  have hB := B_of hd.2
  have hB' := B_of hd'.2
  rw [wf_u8] at hc hi hc' hi' hid
  unfold portreevelaw09_PackApart.f
  rw [shown_true _ (by omega), Option.bind_some]
  by_cases h : (d.length : Int) > 1492
  · rw [if_pos h, portreevelaw09_PackApart.j0, if_pos rfl]
  rw [if_neg h, portreevelaw09_PackApart.j0]
  by_cases h2 : (d'.length : Int) > 1492
  · rw [if_pos (decide_eq_true h2)]
  have hs := pb_short c i d
  have hl4 := pb_length c i d (by omega)
  rw [if_neg (by simpa using h2), bytes_own c i d (by omega), Option.bind_some, bytes_own c' i' d' (by omega), Option.bind_some, reject_own c i d id (by omega), Option.bind_some]
  rw [List.take_of_length_le (show (pb c i d).1.length ≤ 1496 by omega), read_own _ _ (pb_B c i d (by omega) (by omega) hB) (by omega) (by omega), Option.bind_some, pr_pb' c i d (by omega), if_pos rfl, if_pos ((pb_ok c i d).2 (by omega)), if_pos ((pb_ok c' i' d').2 (by omega))]
  rw [row _ _ _ (by omega) (by omega), Option.bind_some, rsame _ _ _ _ _ _ _ (by omega) (by omega), Option.bind_some]
  have hiff : (pb c i d).1 = (pb c' i' d').1 ↔ (c = c' ∧ i = i' ∧ d = d') := by
    constructor
    · intro he
      have e1 := pr_pb' c i d (by omega)
      rw [he, pr_pb' c' i' d' (by omega)] at e1
      simp only [Prod.mk.injEq, and_true] at e1
      exact ⟨e1.1.symm, e1.2.1.symm, e1.2.2.symm⟩
    · rintro ⟨rfl, rfl, rfl⟩; rfl
  rw [show decide ((pb c i d).1 = (pb c' i' d').1) = decide (c = c' ∧ i = i' ∧ d = d') from decide_eq_decide.2 hiff, if_pos (by simp), if_pos rfl, rsame _ _ _ _ _ _ _ (by show d.length ≤ _; omega) (by show d.length < _; omega), Option.bind_some]
  simp
end Go.Proofs.Ytgijfaecplodfaa.Pure

/- A packet is as long as it says: shorter bytes are none, and what stands behind is not its own. -/
import Derived.Test.YtgijfaecplodfaaSayPackLong
import Derived.Test.YtgijfaecplodfaaBase
import Derived.Test.YtgijfaecplodfaaShown
namespace Go.Proofs.Ytgijfaecplodfaa.Pure
set_option linter.unusedVariables false
open Go Go.RowKit Go.Proofs.Ytgijfaecplodfaa.Q Go.Proofs.YtgijfaecplodfaaK Go.Proofs.YtgijfaecplodfaaW.PrintWords Go.Proofs.YtgijfaecplodfaaW.PrintLast Go.Proofs.YtgijfaecplodfaaW.PrintMore

theorem PackLong : portreevelaw09_PackLong.Pure := by
  intro l a t hl ha ht
  refine ⟨4000, ?_⟩
  have hC := B_of hl.2
  have hT := B_of ht.2
  rw [wf_u16] at ha
  unfold portreevelaw09_PackLong.f
  rw [shown_true _ (by omega), Option.bind_some]
  by_cases h : (l.length : Int) > 1500
  · rw [if_pos h, portreevelaw09_PackLong.j0, if_pos rfl]
  rw [if_neg h, portreevelaw09_PackLong.j0]
  by_cases h2 : (t.length : Int) > 200
  · rw [if_pos (decide_eq_true h2)]
  have hpl := pr_length l
  rw [if_neg (by simpa using h2), read_own _ l hC (by omega) (by omega), Option.bind_some]
  by_cases hz : (pr l).2.2.2 = 0
  · obtain ⟨hq1, hq2, hq3⟩ := pr_bytes l hC hz
    have hc : 4 ≤ l.length ∧ 4 ≤ ln l ∧ ln l ≤ l.length ∧ ln l ≤ 1500 := by
      unfold pr at hz
      split at hz
      · next hn => exact hn
      · simp at hz
    have hpr : pr l = (rd l 0, rd l 1, (l.take (ln l).toNat).drop 4, 0) := by unfold pr; rw [if_pos hc]
    have b2 := rd_B hC 2 (by omega) (by omega)
    have b3 := rd_B hC 3 (by omega) (by omega)
    have hn : wrap64 (4 + ((pr l).2.2.1.length : Int)) = ln l := by rw [w64 (by omega) (by omega)]; omega
    rw [if_pos hz, hn, if_neg (by omega), if_pos (by omega), if_pos (by omega), w64 (a := rd l 2) (by omega) (by omega), w64 (a := rd l 3) (by omega) (by omega), w64 (a := rd l 2 * 256) (by omega) (by omega), w64 (a := rd l 2 * 256 + rd l 3) (by omega) (by omega), if_pos (show ln l = rd l 2 * 256 + rd l 3 from rfl), if_pos (by omega), if_pos (by omega)]
    rw [row _ _ _ (by omega) (by omega), Option.bind_some, show (pr l).2.2.1 = (l.take (ln l).toNat).drop 4 by rw [hpr], decide_eq_true rfl, portreevelaw09_PackLong.j1, if_neg (by simp), if_neg (by omega), w64 (a := a) (by omega) (by omega), Int.tmod_eq_emod_of_nonneg (by omega)]
    have hm0 : 0 ≤ a % ln l := Int.emod_nonneg _ (by omega)
    have hm1 : a % ln l < ln l := Int.emod_lt_of_pos _ (by omega)
    generalize a % ln l = m at hm0 hm1
    rw [if_pos hm0, if_pos (by omega), read_own _ _ (B_take _ hC) (by simp only [List.length_take]; omega) (by omega), Option.bind_some, Option.bind_some, if_pos (by omega), if_pos (by omega), if_pos (by simp only [List.length_nil, List.length_take]; omega), Option.bind_some, List.nil_append, if_pos (by simp only [List.length_take]; omega)]
    rw [read_own _ _ (B_append (B_take _ hC) hT) (by simp only [List.length_append, List.length_take]; omega) (by omega), Option.bind_some, if_pos rfl]
    have hshort : (pr (l.take m.toNat)).2.2.2 = 2 := by
      unfold pr
      rw [if_neg]
      rintro ⟨g1, g2, g3, g4⟩
      simp only [List.length_take] at g1 g3
      have e2 : rd (l.take m.toNat) 2 = rd l 2 := by
        rw [show (2 : Int) = ((2 : Nat) : Int) from rfl, rd_lt _ 2 (by simp only [List.length_take]; omega), rd_lt l 2 (by omega), List.getElem_take]
      have e3 : rd (l.take m.toNat) 3 = rd l 3 := by
        rw [show (3 : Int) = ((3 : Nat) : Int) from rfl, rd_lt _ 3 (by simp only [List.length_take]; omega), rd_lt l 3 (by omega), List.getElem_take]
      have : ln (l.take m.toNat) = ln l := by unfold ln; rw [e2, e3]
      omega
    have hlong : pr (l.take (ln l).toNat ++ t) = (rd l 0, rd l 1, (l.take (ln l).toNat).drop 4, 0) := by
      have h6 : (pr l).2.2.1.length ≤ 1496 := hpl
      have := pr_pb (pr l).1 (pr l).2.1 (pr l).2.2.1 t h6
      rw [hq3] at this
      rw [this, hpr]
    rw [if_pos hshort, hlong, if_pos rfl, hpr, rsame _ _ _ _ _ _ _ (by simp only [List.length_drop, List.length_take]; omega) (by simp only [List.length_drop, List.length_take]; omega), Option.bind_some]
    simp
  · rw [if_neg hz]
end Go.Proofs.Ytgijfaecplodfaa.Pure

/- What is written is read back, with what stands behind it; what is read is written as it was. -/
import Derived.Test.YtgijfaecplodfaaSayPackBack
import Derived.Test.YtgijfaecplodfaaBase
import Derived.Test.YtgijfaecplodfaaShown
namespace Go.Proofs.Ytgijfaecplodfaa.Pure
set_option linter.unusedVariables false
open Go Go.RowKit Go.Proofs.Ytgijfaecplodfaa.Q Go.Proofs.YtgijfaecplodfaaK Go.Proofs.YtgijfaecplodfaaW.PrintWords Go.Proofs.YtgijfaecplodfaaW.PrintLast Go.Proofs.YtgijfaecplodfaaW.PrintMore

theorem PackBack : portreevelaw09_PackBack.Pure := by
  intro c i d t l hc hi hd ht hl
  refine ⟨4000, ?_⟩
  have hB := B_of hd.2
  have hT := B_of ht.2
  have hC := B_of hl.2
  rw [wf_u8] at hc hi
  unfold portreevelaw09_PackBack.f
  rw [shown_true _ (by omega), Option.bind_some]
  by_cases h : (d.length : Int) > 2000
  · rw [if_pos h, portreevelaw09_PackBack.j0, if_pos rfl]
  rw [if_neg h]
  by_cases h1 : (t.length : Int) > 300
  · rw [if_pos h1, portreevelaw09_PackBack.j0, if_pos rfl]
  rw [if_neg h1, portreevelaw09_PackBack.j0]
  by_cases h2 : (l.length : Int) > 2000
  · rw [if_pos (decide_eq_true h2)]
  have hs := pb_short c i d
  have hpl := pr_length l
  have hj2 : ∀ (k : Nat) (e : Int), 3000 ≤ k → (e = 0 ↔ d.length ≤ 1496) → portreevelaw09_PackBack.j2 (k + 1) l true e c i d = some true := by
    intro k e hk he
    rw [portreevelaw09_PackBack.j2, read_own _ l hC (by omega) (by omega), Option.bind_some]
    by_cases hz : (pr l).2.2.2 = 0
    · obtain ⟨hq1, hq2, hq3⟩ := pr_bytes l hC hz
      rw [if_pos hz, bytes_own _ _ _ (by omega), Option.bind_some, if_pos rfl, hq3, if_pos rfl, if_pos (by simp only [List.length_take]; omega), if_pos (by omega), row _ _ _ (by simp only [List.length_take]; omega) (by simp only [List.length_take]; omega), Option.bind_some]
      congr 1
      refine decide_eq_true ?_
      rw [List.length_take, Int.toNat_natCast, Nat.min_eq_left hq2]
    · have hz2 : pr l = (0, 0, [], 2) := by
        unfold pr at hz ⊢
        split at hz
        · exact absurd rfl hz
        · next hn => rw [if_neg hn]
      rw [if_neg hz, if_pos rfl, hz2, if_pos rfl, rsame _ _ _ _ _ _ _ (by simp) (by simp only [List.length_nil]; omega), Option.bind_some, if_pos (by simp)]
      congr 1
      by_cases hd6 : d.length ≤ 1496
      · rw [he.2 hd6, show decide ((d.length : Int) ≤ 1496) = true from decide_eq_true (by omega)]
        rfl
      · rw [show (e == 0) = false from beq_eq_false_iff_ne.2 (fun hq => hd6 (he.1 hq)), show decide ((d.length : Int) ≤ 1496) = false from decide_eq_false (by omega)]
        rfl
  rw [if_neg (by simpa using h2), bytes_own c i d (by omega), Option.bind_some]
  by_cases hd6 : d.length ≤ 1496
  · have hl4 := pb_length c i d hd6
    rw [if_pos ((pb_ok c i d).2 hd6), Option.bind_some, if_pos (by simp only [List.length_nil]; omega), List.nil_append, Option.bind_some, if_pos (by omega)]
    rw [read_own _ _ (B_append (pb_B c i d (by omega) (by omega) hB) hT) (by simp only [List.length_append]; omega) (by omega), Option.bind_some, pr_pb c i d t hd6, if_pos rfl, rsame _ _ _ _ _ _ _ (by omega) (by omega), Option.bind_some, if_pos (by simp)]
    rw [portreevelaw09_PackBack.j1, w64 (by omega) (by omega), if_neg (by simp only [bne_iff_ne, ne_eq]; omega)]
    exact hj2 _ _ (by omega) (pb_ok c i d)
  · rw [if_neg (fun hq => hd6 ((pb_ok c i d).1 hq))]
    exact hj2 _ _ (by omega) (pb_ok c i d)
end Go.Proofs.Ytgijfaecplodfaa.Pure

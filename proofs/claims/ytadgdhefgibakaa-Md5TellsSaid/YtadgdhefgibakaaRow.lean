/- Are two rows the same: the document's loop, over plain rows. -/
import Derived.Test.YtadgdhefgibakaaQx11
import Derived.Test.YtadgdhefgibakaaPureKit
namespace Go.Proofs.Ytadgdhefgibakaa.Pure
set_option linter.unusedVariables false
open Go Go.RowKit Go.Proofs.Ytadgdhefgibakaa.Q Go.Proofs.YtadgdhefgibakaaK Go.Proofs.YtadgdhefgibakaaW.PrintWords Go.Proofs.YtadgdhefgibakaaW.PrintLast Go.Proofs.YtadgdhefgibakaaW.PrintMore

theorem row_l0 (a b : List Int) (hlen : a.length = b.length) (hl : a.length ≤ 140737488355328) : ∀ (d k i : Nat), i + d = a.length → d < k → portreeveref01_Row.l0 k a b i = some (decide (a.drop i = b.drop i))
  | 0, k, i, hd, hk => by
    obtain ⟨k, rfl⟩ : ∃ m, k = m + 1 := ⟨k - 1, by omega⟩
    simp only [portreeveref01_Row.l0]
    rw [if_neg (by omega), List.drop_eq_nil_of_le (by omega), List.drop_eq_nil_of_le (by omega)]
    simp
  | d + 1, k, i, hd, hk => by
    obtain ⟨k, rfl⟩ : ∃ m, k = m + 1 := ⟨k - 1, by omega⟩
    have hi : i < a.length := by omega
    have hi' : i < b.length := by omega
    simp only [portreeveref01_Row.l0]
    rw [if_pos (by omega), if_pos (by omega), if_pos (by omega), rd_lt a i hi, rd_lt b i hi', List.drop_eq_getElem_cons hi, List.drop_eq_getElem_cons hi']
    by_cases h : a[i] = b[i]
    · rw [if_pos h, w64 (by omega) (by omega), show ((i : Int) + 1) = ((i + 1 : Nat) : Int) by omega, row_l0 a b hlen hl d k (i + 1) (by omega) (by omega)]
      simp only [List.cons.injEq, h, true_and]
    · rw [if_neg h]
      simp only [List.cons.injEq, h, false_and, decide_false]

theorem row (k : Nat) (a b : List Int) (hl : a.length ≤ 140737488355328) (hk : a.length < k) : portreeveref01_Row.f k a b = some (decide (a = b)) := by
  unfold portreeveref01_Row.f
  by_cases h : a.length = b.length
  · rw [if_pos (by omega)]
    have := row_l0 a b h hl a.length k 0 (by omega) hk
    simpa using this
  · rw [if_neg (by omega)]
    congr 1
    rw [eq_comm, decide_eq_false_iff_not]
    rintro rfl
    exact h rfl
end Go.Proofs.Ytadgdhefgibakaa.Pure

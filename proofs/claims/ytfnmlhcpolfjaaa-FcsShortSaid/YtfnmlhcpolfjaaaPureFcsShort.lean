/- No bytes, and one, are of no form; two are good just if they are nought; what is cut is two bytes shorter. -/
import Derived.Test.YtfnmlhcpolfjaaaSayFcsShort
import Derived.Test.YtfnmlhcpolfjaaaBase
namespace Go.Proofs.Ytfnmlhcpolfjaaa.Pure
set_option linter.unusedVariables false
open Go Go.RowKit Go.Proofs.Ytfnmlhcpolfjaaa.Q Go.Proofs.YtfnmlhcpolfjaaaK Go.Proofs.YtfnmlhcpolfjaaaCrc Go.Proofs.YtfnmlhcpolfjaaaW.PrintWords Go.Proofs.YtfnmlhcpolfjaaaW.PrintLast Go.Proofs.YtfnmlhcpolfjaaaW.PrintMore

theorem FcsShort : portreevelaw01_FcsShort.Pure := by
  intro a b l ha hb hl
  refine ⟨4000, ?_⟩
  have hB := B_of hl.2
  rw [wf_u8] at ha hb
  have hab : B [a, b] := fun c hc => by
    simp only [List.mem_cons, List.not_mem_nil, or_false] at hc
    rcases hc with rfl | rfl <;> omega
  have ha1 : B [a] := fun c hc => by
    simp only [List.mem_cons, List.not_mem_nil, or_false] at hc
    omega
  unfold portreevelaw01_FcsShort.f
  rw [shown_true _ (by omega), Option.bind_some]
  by_cases h : (l.length : Int) > 1000
  · rw [if_pos h]
  · have h2 : (decide (2 ≤ ([a, b] : List Int).length ∧ on 65535 (toN [a, b]) = 61624)) = decide (a = 0 ∧ b = 0) := by
      rw [decide_eq_decide]
      have e := good_two [] (fun c hc => by cases hc) a.toNat b.toNat (by omega) (by omega)
      rw [Int.toNat_of_nonneg ha.1, Int.toNat_of_nonneg hb.1, List.nil_append] at e
      rw [e]
      have : on 65535 (toN []) = 65535 := on_nil _
      rw [this]
      simp
      omega
    rw [if_neg h, cut_own _ [] (fun c hc => by cases hc) (by simp) (by simp), Option.bind_some, cut_own _ [a] ha1 (by simp) (by simp), Option.bind_some, cut_own _ l hB (by omega) (by omega), Option.bind_some, if_pos rfl, if_pos (by simp), if_pos (by simp), good_own _ _ hab (by simp) (by simp), Option.bind_some, h2, good_own _ l hB (by omega) (by omega)]
    have hend : ∀ t : Bool, (if (if l.length < 2 then (([] : List Int), (2 : Int)) else if on 65535 (toN l) = 61624 then (l.take (l.length - 2), 0) else ([], 3)).2 = 0 then (if (((if l.length < 2 then (([] : List Int), (2 : Int)) else if on 65535 (toN l) = 61624 then (l.take (l.length - 2), 0) else ([], 3)).1.length : Nat) : Int) = wrap64 ((l.length : Int) - 2) then some (((if l.length < 2 then (([] : List Int), (2 : Int)) else if on 65535 (toN l) = 61624 then (l.take (l.length - 2), 0) else ([], 3)).2 == 0) == decide (2 ≤ l.length ∧ on 65535 (toN l) = 61624)) else some false) else some (((if l.length < 2 then (([] : List Int), (2 : Int)) else if on 65535 (toN l) = 61624 then (l.take (l.length - 2), 0) else ([], 3)).2 == 0) == decide (2 ≤ l.length ∧ on 65535 (toN l) = 61624))) = some true := by
      intro t
      by_cases hs : l.length < 2
      · simp [hs]
      · by_cases hg : on 65535 (toN l) = 61624
        · rw [if_neg hs, if_pos hg, if_pos rfl, w64 (by omega) (by omega), if_pos (by rw [List.length_take]; omega)]
          simp [hg]
          omega
        · rw [if_neg hs, if_neg hg, if_neg (by decide)]
          simp [hg]
    simp only [Option.bind_some]
    by_cases h0 : a = 0
    · rw [if_pos h0, if_pos (by by_cases hb0 : b = 0 <;> simp [h0, hb0])]
      exact hend true
    · rw [if_neg h0, if_pos (by simp [h0])]
      exact hend true
end Go.Proofs.Ytfnmlhcpolfjaaa.Pure

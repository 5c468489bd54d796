/- Who is not known, and who is locked out, gets the same answer, good or not: no, and nothing is written. -/
import Derived.Test.YtocjadhpaecpaaaSayGateKnown
import Derived.Test.YtocjadhpaecpaaaBase
import Derived.Test.YtocjadhpaecpaaaBase2
namespace Go.Proofs.Ytocjadhpaecpaaa.Pure
set_option linter.unusedVariables false
open Go Go.RowKit Go.Proofs.Ytocjadhpaecpaaa.Q Go.Proofs.YtocjadhpaecpaaaK Go.Proofs.YtocjadhpaecpaaaW.PrintWords Go.Proofs.YtocjadhpaecpaaaW.PrintLast Go.Proofs.YtocjadhpaecpaaaW.PrintMore

theorem GateKnown : portreevelaw16_GateKnown.Pure := by
  intro a O W L u known now ha hO hW hL hu hnow
  refine ⟨400000, ?_⟩
  obtain ⟨b, h1, h2⟩ := may_own 400000 a O W L u now (by omega) (by omega) (by omega)
  unfold portreevelaw16_GateKnown.f
  rw [shown_true _ (by omega), Option.bind_some, h1, Option.bind_some]
  by_cases hb : b = true
  · have h3 := h2 hb
    have h8 : L.length ≤ 1000000 := by omega
    have hv := fun good => verdict_own 400000 a O W u known good now h8 h3.2.2.2 h3.2.1.1 h3.2.1.2 h3.1.1 h3.1.2 (by omega)
    rw [if_pos hb, hv true, Option.bind_some, hv false, Option.bind_some]
    have hj : (known = false ∨ now < UL L u) → portreevelaw16_GateKnown.j0 400000 u now true (VD L u known true now).1 (VD L u known true now).2 (VD L u known false now).1 (VD L u known false now).2 true = some true := by
      intro hx
      unfold VD
      rw [if_pos hx, if_pos hx, portreevelaw16_GateKnown.j0, if_pos rfl, if_pos rfl, if_neg (by simp), if_neg (by simp)]
      show some (wrap64 ((([] : List S41).length : Int) + (([] : List S41).length : Int)) == 0) = some true
      rw [w64 (by simp) (by simp)]
      rfl
    cases known with
    | false => rw [if_neg (by simp)]; exact hj (Or.inl rfl)
    | true =>
      rw [if_pos rfl, locked_own a O W L u now h8, Option.bind_some]
      by_cases hl : now < UL L u
      · rw [decide_eq_true hl]; exact hj (Or.inr hl)
      · have hx : ¬ (true = false ∨ now < UL L u) := by simp [hl]
        have e1 : (VD L u true true now).1 = true := by
          unfold VD
          rw [if_neg hx, if_pos rfl]
          split <;> rfl
        have e2 : VD L u true false now = (false, [⟨4, 0, 0, 0, u, 0, 0, 0, max now (FL L u).2⟩]) := by
          unfold VD
          rw [if_neg hx, if_neg (show ¬ false = true by simp)]
        rw [decide_eq_false hl, e2, portreevelaw16_GateKnown.j0, if_neg (show ¬ false = true by simp), if_pos rfl, if_pos e1, if_neg (show ¬ false = true by simp), if_pos (by rfl), if_pos (by simp)]
        rw [show rd_T41 [(⟨4, 0, 0, 0, u, 0, 0, 0, max now (FL L u).2⟩ : S41)] 0 = ⟨4, 0, 0, 0, u, 0, 0, 0, max now (FL L u).2⟩ from rfl]
        simp only [if_true]
        rw [decide_eq_true (by omega)]
  · rw [if_neg hb]
end Go.Proofs.Ytocjadhpaecpaaa.Pure

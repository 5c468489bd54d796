/- A lockout ends, once and for all, with time; who has not failed often enough never is locked out. -/
import Derived.Test.YtocjadhpaecpaaaSayGateTime
import Derived.Test.YtocjadhpaecpaaaBase
import Derived.Test.YtocjadhpaecpaaaBase2
namespace Go.Proofs.Ytocjadhpaecpaaa.Pure
set_option linter.unusedVariables false
open Go Go.RowKit Go.Proofs.Ytocjadhpaecpaaa.Q Go.Proofs.YtocjadhpaecpaaaK Go.Proofs.YtocjadhpaecpaaaW.PrintWords Go.Proofs.YtocjadhpaecpaaaW.PrintLast Go.Proofs.YtocjadhpaecpaaaW.PrintMore

theorem GateTime : portreevelaw16_GateTime.Pure := by
  intro a O W L u now later ha hO hW hL hu hnow hlater
  refine ⟨400000, ?_⟩
  rw [wf_u16] at hlater
  obtain ⟨b, h1, h2⟩ := may_own 400000 a O W L u now (by omega) (by omega) (by omega)
  have hj : portreevelaw16_GateTime.j0 400000 u now later true true a O W L = some true := by rw [portreevelaw16_GateTime.j0, if_pos rfl]
  unfold portreevelaw16_GateTime.f
  rw [shown_true _ (by omega), Option.bind_some, h1, Option.bind_some]
  by_cases hb : b = true
  · have h3 := h2 hb
    have h8 : L.length ≤ 1000000 := by omega
    rw [if_pos hb]
    by_cases hn : now > 999930000
    · rw [decide_eq_true hn]; exact hj
    rw [decide_eq_false hn, portreevelaw16_GateTime.j0, if_neg (by simp), failed_own a O W L u h8, Option.bind_some, locked_own a O W L u now h8, Option.bind_some, w64 (a := later) (by omega) (by omega), w64 (by omega) (by omega), locked_own a O W L u (now + later) h8, Option.bind_some, if_pos rfl, until_own a O W L u h8]
    by_cases hl : now < UL L u
    · have h5 : (FL L u).1 ≥ 3 := by
        by_cases h5 : (FL L u).1 < 3
        · unfold UL at hl
          rw [if_pos h5] at hl
          omega
        · omega
      rw [if_pos (decide_eq_true hl), if_pos h5, Option.bind_some]
      simp
    · rw [if_neg (by simpa using hl), if_neg (by simp only [decide_eq_true_eq]; omega)]
      split
      · rw [Option.bind_some]; simp
      · rw [Option.bind_some]; simp
  · rw [if_neg hb]; exact hj
end Go.Proofs.Ytocjadhpaecpaaa.Pure

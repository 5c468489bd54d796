/- The ops of a verdict can be done, unless there is no room; behind them who came in has not failed any more, and who did not has failed once more. -/
import Derived.Test.YtocjadhpaecpaaaSayGateOps
import Derived.Test.YtocjadhpaecpaaaBase
import Derived.Test.YtocjadhpaecpaaaBase2
import Derived.Test.YtocjadhpaecpaaaBase3
import Derived.Test.YtocjadhpaecpaaaBase4
import Derived.Test.YtocjadhpaecpaaaBase5
namespace Go.Proofs.Ytocjadhpaecpaaa.Pure
set_option linter.unusedVariables false
open Go Go.RowKit Go.Proofs.Ytocjadhpaecpaaa.Q Go.Proofs.YtocjadhpaecpaaaK Go.Proofs.YtocjadhpaecpaaaW.PrintWords Go.Proofs.YtocjadhpaecpaaaW.PrintLast Go.Proofs.YtocjadhpaecpaaaW.PrintMore

theorem GateOps : portreevelaw16_GateOps.Pure := by
  intro a O W L u known good now ha hO hW hL hu hnow
  refine ⟨400000, ?_⟩
  obtain ⟨b, h1, h2⟩ := may_own 400000 a O W L u now (by omega) (by omega) (by omega)
  unfold portreevelaw16_GateOps.f
  rw [shown_true _ (by omega), Option.bind_some, h1, Option.bind_some]
  by_cases hb : b = true
  · have h3 := h2 hb
    have h8 : L.length ≤ 1000000 := by omega
    have hr := FL_range h3.2.2.2 u
    subst hb
    have hU := (right_L 400000 a O W L (by omega) (by omega) (by omega) (may_right _ a O W L u now h1)).1
    rw [if_pos rfl, verdict_own 400000 a O W u known good now h8 h3.2.2.2 h3.2.1.1 h3.2.1.2 h3.1.1 h3.1.2 (by omega), Option.bind_some, failed_own a O W L u h8, Option.bind_some]
    by_cases hx : known = false ∨ now < UL L u
    · have hv : VD L u known good now = (false, []) := by unfold VD; rw [if_pos hx]
      rw [hv]
      rw [if_pos (by rfl), if_pos rfl, if_neg (by simp)]
      by_cases hk : known = true
      · rw [if_pos hk, locked_own a O W L u now h8, Option.bind_some]
        rcases hx with hx | hx
        · rw [hk] at hx; cases hx
        · rw [decide_eq_true hx]
      · rw [if_neg hk]
    by_cases hg : good = true
    · subst hg
      by_cases hn : (FL L u).1 = 0
      · have hv : VD L u known true now = (true, []) := by unfold VD; rw [if_neg hx, if_pos rfl, if_pos hn]
        rw [hv]
        rw [if_pos (by rfl), if_pos rfl, if_pos rfl, if_pos hn]
      · have hv : VD L u known true now = (true, [⟨5, 0, 0, 0, u, 0, 0, 0, 0⟩]) := by unfold VD; rw [if_neg hx, if_pos rfl, if_neg hn]
        have hA := ap_none hU.1 u 0 hn
        have hB := ap_LL h3.2.2.2 5 u 0 (by omega) (by omega)
        rw [hv]
        simp only []
        rw [if_neg (by simp), if_pos (by simp), show rd_T41 [(⟨5, 0, 0, 0, u, 0, 0, 0, 0⟩ : S41)] 0 = ⟨5, 0, 0, 0, u, 0, 0, 0, 0⟩ from rfl]
        simp only []
        rw [apply_own _ a O W 5 u 0 (by omega) h3.2.2.2 (Or.inr rfl) h3.2.1.1 h3.2.1.2 (by omega) (by omega) (by omega), Option.bind_some]
        simp only []
        rw [failed_own a O W _ u (by omega), Option.bind_some, hA.2, if_pos hA.1]
        simp
    · have hg : good = false := by simpa using hg
      subst hg
      have hv : VD L u known false now = (false, [⟨4, 0, 0, 0, u, 0, 0, 0, max now (FL L u).2⟩]) := by unfold VD; rw [if_neg hx, if_neg (by simp)]
      have hm0 : 0 ≤ max now (FL L u).2 := by omega
      have hm1 : max now (FL L u).2 ≤ 1000000000 := by omega
      have hm2 : (FL L u).2 ≤ max now (FL L u).2 := by omega
      have hB := ap_LL h3.2.2.2 4 u (max now (FL L u).2) hm0 hm1
      rw [hv]
      simp only []
      rw [if_neg (by simp), if_pos (by simp), show rd_T41 [(⟨4, 0, 0, 0, u, 0, 0, 0, max now (FL L u).2⟩ : S41)] 0 = ⟨4, 0, 0, 0, u, 0, 0, 0, max now (FL L u).2⟩ from rfl]
      simp only []
      rw [apply_own _ a O W 4 u _ (by omega) h3.2.2.2 (Or.inl rfl) h3.2.1.1 h3.2.1.2 hm0 hm1 (by omega), Option.bind_some]
      simp only []
      rw [failed_own a O W _ u (by omega), Option.bind_some]
      by_cases he : (ap L 4 u (max now (FL L u).2)).2 = 0
      · rw [if_pos he, ap_fail u _ hm2 he, mn_own, w64 (by omega) (by omega)]
        simp
        omega
      · rw [if_neg he, if_pos (ap_bad0 u _ hm2 he), ap_bad u _ hm2 he]
        simp
  · rw [if_neg hb]
end Go.Proofs.Ytocjadhpaecpaaa.Pure

/- What is done for one user changes nothing for another one. -/
import Derived.Test.YtocjadhpaecpaaaSayGateOthers
import Derived.Test.YtocjadhpaecpaaaBase
import Derived.Test.YtocjadhpaecpaaaBase2
import Derived.Test.YtocjadhpaecpaaaBase3
namespace Go.Proofs.Ytocjadhpaecpaaa.Pure
set_option linter.unusedVariables false
open Go Go.RowKit Go.Proofs.Ytocjadhpaecpaaa.Q Go.Proofs.YtocjadhpaecpaaaK Go.Proofs.YtocjadhpaecpaaaW.PrintWords Go.Proofs.YtocjadhpaecpaaaW.PrintLast Go.Proofs.YtocjadhpaecpaaaW.PrintMore

theorem GateOthers : portreevelaw16_GateOthers.Pure := by
  intro a O W L u v good now ha hO hW hL hu hv hnow
  refine ⟨400000, ?_⟩
  obtain ⟨b, h1, h2⟩ := may_own 400000 a O W L u now (by omega) (by omega) (by omega)
  obtain ⟨c, g1, g2⟩ := may_own 400000 a O W L v now (by omega) (by omega) (by omega)
  have hj : portreevelaw16_GateOthers.j0 400000 u v good now true true a O W L = some true := by rw [portreevelaw16_GateOthers.j0, if_pos rfl]
  unfold portreevelaw16_GateOthers.f
  rw [shown_true _ (by omega), Option.bind_some, h1, Option.bind_some]
  by_cases hb : b = true
  · have h3 := h2 hb
    rw [if_pos hb, g1, Option.bind_some]
    by_cases hc : c = true
    · have g3 := g2 hc
      have h8 : L.length ≤ 1000 := by omega
      rw [if_pos hc]
      by_cases hne : u.toList = v.toList
      · rw [show (u.toList == v.toList) = true from beq_iff_eq.2 hne]; exact hj
      have hE : ∀ (k : Nat) (l : List S41) (L' : List S64), 1000 ≤ k → FL L' v = FL L v → LL L' → L'.length ≤ 1000 → portreevelaw16_GateOthers.l0 (k + 1) v now true l (l.length : Int) a O W L a O W L' = some true := by
        intro k l L' hk hF hLL' hl'
        have hops : (VD L v true true now).2.length ≤ 1 := by
          rcases VD_ops L v true true now with h | ⟨kd, t, _, _, h⟩ <;> rw [h] <;> simp
        rw [portreevelaw16_GateOthers.l0, if_neg (by omega), failed_own a O W L v (by omega), Option.bind_some, failed_own a O W L' v (by omega), Option.bind_some, verdict_own k a O W v true true now (by omega) g3.2.2.2 g3.2.1.1 g3.2.1.2 g3.1.1 g3.1.2 (by omega), Option.bind_some, verdict_own k a O W v true true now (by omega) hLL' g3.2.1.1 g3.2.1.2 g3.1.1 g3.1.2 (by omega), Option.bind_some, hF, VD_same v true true now hF, if_pos rfl, if_pos rfl, if_pos rfl, if_pos (by simp), ops_own k _ hops (by omega), Option.bind_some]
      have hr := FL_range h3.2.2.2 u
      rw [show (u.toList == v.toList) = false from beq_eq_false_iff_ne.2 hne, portreevelaw16_GateOthers.j0, if_neg (by simp), verdict_own _ a O W u true good now (by omega) h3.2.2.2 h3.2.1.1 h3.2.1.2 h3.1.1 h3.1.2 (by omega), Option.bind_some]
      rcases VD_ops L u true good now with h | ⟨kd, t, hd, ht, h⟩
      · rw [h]
        exact hE 399998 [] L (by omega) rfl h3.2.2.2 h8
      · have t01 : 0 ≤ t ∧ t ≤ 1000000000 := by rcases ht with rfl | rfl <;> omega
        have hA := ap_LL h3.2.2.2 kd u t t01.1 t01.2
        rw [h, portreevelaw16_GateOthers.l0, if_pos (by simp), if_pos (by omega), show rd_T41 [(⟨kd, 0, 0, 0, u, 0, 0, 0, t⟩ : S41)] 0 = ⟨kd, 0, 0, 0, u, 0, 0, 0, t⟩ from rfl]
        simp only []
        rw [apply_own _ a O W kd u t h8 h3.2.2.2 hd h3.2.1.1 h3.2.1.2 t01.1 t01.2 (by omega), Option.bind_some, w64 (by omega) (by omega)]
        exact hE 399997 [⟨kd, 0, 0, 0, u, 0, 0, 0, t⟩] (ap L kd u t).1 (by omega) (by unfold FL; rw [ap_other L kd u v t hne]) hA.1 (by omega)
    · rw [if_neg hc]; exact hj
  · rw [if_neg hb]; exact hj
end Go.Proofs.Ytocjadhpaecpaaa.Pure

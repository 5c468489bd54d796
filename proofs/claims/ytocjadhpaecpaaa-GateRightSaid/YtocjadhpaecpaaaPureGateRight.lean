/- What is done behind a verdict leaves a right book, in which nothing but who has failed is another. -/
import Derived.Test.YtocjadhpaecpaaaSayGateRight
import Derived.Test.YtocjadhpaecpaaaBase
import Derived.Test.YtocjadhpaecpaaaBase2
import Derived.Test.YtocjadhpaecpaaaBaseR
namespace Go.Proofs.Ytocjadhpaecpaaa.Pure
set_option linter.unusedVariables false
open Go Go.RowKit Go.Proofs.Ytocjadhpaecpaaa.Q Go.Proofs.YtocjadhpaecpaaaK Go.Proofs.YtocjadhpaecpaaaW.PrintWords Go.Proofs.YtocjadhpaecpaaaW.PrintLast Go.Proofs.YtocjadhpaecpaaaW.PrintMore

theorem GateRight : portreevelaw16_GateRight.Pure := by
  intro a O W L u good now ha hO hW hL hu hnow
  refine ⟨400000, ?_⟩
  obtain ⟨b, h1, h2⟩ := may_own 400000 a O W L u now (by omega) (by omega) (by omega)
  unfold portreevelaw16_GateRight.f
  rw [shown_true _ (by omega), Option.bind_some, h1, Option.bind_some]
  by_cases hb : b = true
  · have h3 := h2 hb
    have hr := FL_range h3.2.2.2 u
    subst hb
    have hR := may_right _ a O W L u now h1
    obtain ⟨bq, hq1, hq2⟩ := right_own 400000 a O W L (by omega) (by omega) (by omega)
    rw [hR] at hq1
    have hq := hq2 (Option.some.inj hq1).symm
    obtain ⟨hU, hM⟩ := right_L 400000 a O W L (by omega) (by omega) (by omega) hR
    rw [if_pos rfl, verdict_own 400000 a O W u true good now (by omega) h3.2.2.2 h3.2.1.1 h3.2.1.2 h3.1.1 h3.1.2 (by omega), Option.bind_some]
    have hE : ∀ (k : Nat) (l : List S41) (L' : List S64), 300000 ≤ k → l.length ≤ 1 → portreeveref04_Right.f k a O W L' = some true → L'.length ≤ 1000 → portreevelaw16_GateRight.l0 (k + 1) true l (l.length : Int) a O W L a O W L' = some true := by
      intro k l L' hk hl hRt hl'
      rw [portreevelaw16_GateRight.l0, if_neg (by omega), if_pos rfl, hRt, Option.bind_some, if_pos rfl, same_own k a O W L' (by omega) (by omega) (by omega) (by omega), Option.bind_some, if_pos rfl, decide_eq_true (by omega)]
    have hRk : ∀ (k : Nat), 300000 ≤ k → k ≤ 400000 → ∀ L' : List S64, L'.length ≤ 8 → LL L' → UQ L' → NM L' → portreeveref04_Right.f k a O W L' = some true := by
      intro k hk hk4 L' g1 g2 g3 g4
      obtain ⟨bk, hb1, hb2⟩ := right_own k a O W L (by omega) (by omega) hk
      have hbk : portreeveref04_Right.f k a O W L = some true := by
        have hm : ∀ d, portreeveref04_Right.f (k + d) a O W L = some bk := by
          intro d
          induction d with
          | zero => exact hb1
          | succ d ih => exact portreeveref04_Right.mono a O W L (k + d) bk ih
        have := hm (400000 - k)
        rw [show k + (400000 - k) = 400000 by omega, hR] at this
        rw [hb1, ← Option.some.inj this]
      exact (right_L k a O W L (by omega) (by omega) hk hbk).2 L' g1 g2 g3 g4
    rcases VD_ops L u true good now with h | ⟨kd, t, hd, ht, h⟩
    · rw [h]
      exact hE 399999 [] L (by omega) (by simp) (hRk 399999 (by omega) (by omega) L (by omega) h3.2.2.2 hU.1 hU.2) (by omega)
    · have t01 : 0 ≤ t ∧ t ≤ 1000000000 := by rcases ht with rfl | rfl <;> omega
      have hA := ap_LL h3.2.2.2 kd u t t01.1 t01.2
      have hB := ap_UQ hU.1 hU.2 kd u t h3.2.1.1 h3.2.1.2
      have hC : (ap L kd u t).1.length ≤ 8 := by
        have h8 : L.length ≤ 8 := by omega
        unfold ap
        rcases ix u L with _ | n
        · simp only []
          split
          · exact h8
          · split
            · exact h8
            · simp only [List.length_append, List.length_singleton]; omega
        · simp only []
          split
          · simp only [List.length_append, List.length_take, List.length_drop]; omega
          · split
            · exact h8
            · simp only [List.length_set]; exact h8
      rw [h, portreevelaw16_GateRight.l0, if_pos (by simp), if_pos (by omega), show rd_T41 [(⟨kd, 0, 0, 0, u, 0, 0, 0, t⟩ : S41)] 0 = ⟨kd, 0, 0, 0, u, 0, 0, 0, t⟩ from rfl]
      simp only []
      rw [apply_own _ a O W kd u t (by omega) h3.2.2.2 hd h3.2.1.1 h3.2.1.2 t01.1 t01.2 (by omega), Option.bind_some, w64 (by omega) (by omega)]
      exact hE 399998 [⟨kd, 0, 0, 0, u, 0, 0, 0, t⟩] (ap L kd u t).1 (by omega) (by simp) (hRk 399998 (by omega) (by omega) _ hC hA.1 hB.1 hB.2) (by omega)
  · rw [if_neg hb]
end Go.Proofs.Ytocjadhpaecpaaa.Pure

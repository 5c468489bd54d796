/- Of a user that fails again and again nobody comes in from the third failure on, up to its end; then it may. -/
import Derived.Test.YtocjadhpaecpaaaSayGateLocks
import Derived.Test.YtocjadhpaecpaaaBase
import Derived.Test.YtocjadhpaecpaaaBase2
import Derived.Test.YtocjadhpaecpaaaBase3
import Derived.Test.YtocjadhpaecpaaaBase4
namespace Go.Proofs.Ytocjadhpaecpaaa.Pure
set_option linter.unusedVariables false
open Go Go.RowKit Go.Proofs.Ytocjadhpaecpaaa.Q Go.Proofs.YtocjadhpaecpaaaK Go.Proofs.YtocjadhpaecpaaaW.PrintWords Go.Proofs.YtocjadhpaecpaaaW.PrintLast Go.Proofs.YtocjadhpaecpaaaW.PrintMore

theorem locks_l0 (u : ByteArray) (now later a : Int) (O : List S76) (W : List S72) (h0 : 1 ≤ u.size) (h1 : u.size ≤ 16) (t0 : 0 ≤ now) (t1 : now ≤ 999999700) (l0 : 0 ≤ later) (l1 : later ≤ 65535) (l2 : later ≤ 255) : ∀ (d k i : Nat) (L : List S64), i + d = 3 → LL L → L.length ≤ 8 + i → (i : Int) ≤ (FL L u).1 → 10 * d + 2000 ≤ k → portreevelaw16_GateLocks.l0 k u now later true (i : Int) a O W L = some true
  | 0, k, i, L, hd, hLL, hL, hf, hk => by
    obtain ⟨k, rfl⟩ : ∃ m, k = m + 1 := ⟨k - 1, by omega⟩
    have hr := FL_range hLL u
    have hU : UL L u = (FL L u).2 + 20 := by unfold UL; rw [if_neg (by omega), w64 (by omega) (by omega)]
    have hv : (VD L u true true (now + later)).1 = decide (now + later ≥ UL L u) := by
      unfold VD
      by_cases hl : now + later < UL L u
      · rw [if_pos (Or.inr hl), decide_eq_false (by omega)]
      · rw [if_neg (by simp [hl]), if_pos rfl, decide_eq_true (by omega)]
        split <;> rfl
    rw [portreevelaw16_GateLocks.l0, if_neg (by omega), failed_own a O W L u (by omega), Option.bind_some, until_own a O W L u (by omega), Option.bind_some, w64 (a := later) (by omega) (by omega), w64 (a := now + later) (by omega) (by omega), verdict_own k a O W u true true (now + later) (by omega) hLL h0 h1 (by omega) (by omega) (by omega), Option.bind_some, if_pos rfl, if_pos (by omega), w64 (a := (FL L u).2 + 20) (by omega) (by omega), if_pos hU, hv, if_pos (by simp), locked_own a O W L u (now + later) (by omega), Option.bind_some]
    simp
  | d + 1, k, i, L, hd, hLL, hL, hf, hk => by
    obtain ⟨k, rfl⟩ : ∃ m, k = m + 4 := ⟨k - 4, by omega⟩
    have hr := FL_range hLL u
    rw [portreevelaw16_GateLocks.l0, if_pos (by omega), verdict_own _ a O W u true false now (by omega) hLL h0 h1 t0 (by omega) (by omega), Option.bind_some]
    by_cases hl : now < UL L u
    · have h3 : 3 ≤ (FL L u).1 := by
        by_cases h3 : (FL L u).1 < 3
        · unfold UL at hl
          rw [if_pos h3] at hl
          omega
        · omega
      have hv : (VD L u true false now).2 = [] := by unfold VD; rw [if_pos (Or.inr hl)]
      rw [hv, portreevelaw16_GateLocks.l1, if_neg (by simp), w64 (by omega) (by omega), show ((i : Int) + 1) = ((i + 1 : Nat) : Int) by omega]
      exact locks_l0 u now later a O W h0 h1 t0 t1 l0 l1 l2 d (k + 2) (i + 1) L (by omega) hLL (by omega) (by omega) (by omega)
    · have hv : (VD L u true false now).2 = [⟨4, 0, 0, 0, u, 0, 0, 0, max now (FL L u).2⟩] := by unfold VD; rw [if_neg (by simp [hl]), if_neg (by simp)]
      have hm0 : 0 ≤ max now (FL L u).2 := by omega
      have hm1 : max now (FL L u).2 ≤ 1000000000 := by omega
      have hm2 : (FL L u).2 ≤ max now (FL L u).2 := by omega
      have hA := ap_LL hLL 4 u (max now (FL L u).2) hm0 hm1
      rw [hv, portreevelaw16_GateLocks.l1, if_pos (by simp), if_pos (by omega), show rd_T41 [(⟨4, 0, 0, 0, u, 0, 0, 0, max now (FL L u).2⟩ : S41)] 0 = ⟨4, 0, 0, 0, u, 0, 0, 0, max now (FL L u).2⟩ from rfl]
      simp only []
      rw [apply_own _ a O W 4 u _ (by omega) hLL (Or.inl rfl) h0 h1 hm0 hm1 (by omega), Option.bind_some]
      by_cases he : (ap L 4 u (max now (FL L u).2)).2 = 0
      · have hF := ap_fail u _ hm2 he
        rw [if_pos he, portreevelaw16_GateLocks.l1, if_neg (by rw [w64 (by omega) (by omega)]; simp), w64 (by omega) (by omega), show ((i : Int) + 1) = ((i + 1 : Nat) : Int) by omega]
        exact locks_l0 u now later a O W h0 h1 t0 t1 l0 l1 l2 d (k + 1) (i + 1) (ap L 4 u (max now (FL L u).2)).1 (by omega) hA.1 (by omega) (by rw [hF]; simp only; omega) (by omega)
      · have h8 := ap_bad u _ hm2 he
        rw [if_neg he]
        simp only [if_true, h8]
        rfl
theorem GateLocks : portreevelaw16_GateLocks.Pure := by
  intro a O W L u now later ha hO hW hL hu hnow hlater
  refine ⟨400000, ?_⟩
  rw [wf_u8] at hlater
  obtain ⟨b, h1, h2⟩ := may_own 400000 a O W L u now (by omega) (by omega) (by omega)
  have hj : portreevelaw16_GateLocks.j0 400000 u now later true true a O W L = some true := by rw [portreevelaw16_GateLocks.j0, if_pos rfl]
  unfold portreevelaw16_GateLocks.f
  rw [shown_true _ (by omega), Option.bind_some, h1, Option.bind_some]
  by_cases hb : b = true
  · have h3 := h2 hb
    rw [if_pos hb]
    by_cases hn : now > 999999700
    · rw [decide_eq_true hn]; exact hj
    rw [decide_eq_false hn, portreevelaw16_GateLocks.j0, if_neg (by simp)]
    exact locks_l0 u now later a O W h3.2.1.1 h3.2.1.2 h3.1.1 (by omega) (by omega) (by omega) (by omega) 3 399999 0 L (by omega) h3.2.2.2 (by omega) (by have := FL_range h3.2.2.2 u; omega) (by omega)
  · rw [if_neg hb]; exact hj
end Go.Proofs.Ytocjadhpaecpaaa.Pure

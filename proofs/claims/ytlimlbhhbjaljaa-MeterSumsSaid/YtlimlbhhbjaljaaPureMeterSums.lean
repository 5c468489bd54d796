/- Octets that are counted in two parts are counted at once, where neither is below nought and their sum is a number; nothing counts nothing. -/
import Derived.Test.YtlimlbhhbjaljaaSayMeterSums
import Derived.Test.YtlimlbhhbjaljaaBase
namespace Go.Proofs.Ytlimlbhhbjaljaa.Pure
set_option linter.unusedVariables false
open Go Go.RowKit Go.Proofs.Ytlimlbhhbjaljaa.Q Go.Proofs.YtlimlbhhbjaljaaK Go.Proofs.YtlimlbhhbjaljaaW.PrintWords Go.Proofs.YtlimlbhhbjaljaaW.PrintLast Go.Proofs.YtlimlbhhbjaljaaW.PrintMore

theorem top_two (a m n : Int) (h0 : 0 ≤ a) (h1 : a ≤ 18446744073709551615) (hm : 0 ≤ m) (hn : 0 ≤ n) : top (top a m) n = top a (m + n) := by
  unfold top
  by_cases h : m ≤ 0
  · obtain rfl : m = 0 := by omega
    simp
  · rw [if_neg h]
    by_cases h2 : n ≤ 0
    · obtain rfl : n = 0 := by omega
      simp [h]
    · rw [if_neg h2, if_neg (show ¬ m + n ≤ 0 by omega)]
      split
      · rw [if_pos (by omega), if_pos (by omega)]
      · by_cases h3 : a + m + n > 18446744073709551615
        · rw [if_pos h3, if_pos (by omega)]
        · rw [if_neg h3, if_neg (by omega)]
          omega

theorem MeterSums : portreevelaw17_MeterSums.Pure := by
  intro a b c p q r s ha hb hc hp hq hr hs
  refine ⟨10, ?_⟩
  rw [wf_u32] at hp hq hr hs
  have i64 : ∀ x : Int, -9223372036854775808 ≤ x → x ≤ 9223372036854775807 → (Lit.int .i64 x).wf = true := fun x h h' => wf_i64.2 ⟨h, h'⟩
  have ha' := wf_u64.1 ha
  have hb' := wf_u64.1 hb
  unfold portreevelaw17_MeterSums.f
  rw [shown_true, Option.bind_some, right_ref, Option.bind_some]
  by_cases hg : 0 ≤ c ∧ c ≤ 6
  · rw [if_pos (by simpa using hg), w64 (show _ ≤ p by omega) (by omega), w64 (show _ ≤ q by omega) (by omega), w64 (show _ ≤ r by omega) (by omega), w64 (show _ ≤ s by omega) (by omega), w64 (show _ ≤ p + r by omega) (by omega), w64 (show _ ≤ q + s by omega) (by omega)]
    rw [count a b c p q ha hb (i64 _ (by omega) (by omega)) (i64 _ (by omega) (by omega)), Option.bind_some]
    rw [count _ _ _ r s (wf_top ha) (wf_top hb) (i64 _ (by omega) (by omega)) (i64 _ (by omega) (by omega)), Option.bind_some]
    rw [count a b c _ _ ha hb (i64 _ (by omega) (by omega)) (i64 _ (by omega) (by omega)), Option.bind_some, if_pos rfl]
    rw [top_two a p r ha'.1 ha'.2 hp.1 hr.1, top_two b q s hb'.1 hb'.2 hq.1 hs.1, if_pos (by simp)]
    rw [count a b c 0 0 ha hb (i64 _ (by omega) (by omega)) (i64 _ (by omega) (by omega)), Option.bind_some, if_pos (by simp [top])]
    rw [count a b c (-1) (-5) ha hb (i64 _ (by omega) (by omega)) (i64 _ (by omega) (by omega)), Option.bind_some]
    simp [top]
  · rw [if_neg (by simpa using hg)]
end Go.Proofs.Ytlimlbhhbjaljaa.Pure

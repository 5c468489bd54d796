/- Octets never go back, nor do they change with a tick; of a meter that runs, of Every ticks one after another just one tells that an interim is due; one that doesn't run never does. -/
import Derived.Test.YtlimlbhhbjaljaaSayMeterUp
import Derived.Test.YtlimlbhhbjaljaaBase
namespace Go.Proofs.Ytlimlbhhbjaljaa.Pure
set_option linter.unusedVariables false
open Go Go.RowKit Go.Proofs.Ytlimlbhhbjaljaa.Q Go.Proofs.YtlimlbhhbjaljaaK Go.Proofs.YtlimlbhhbjaljaaW.PrintWords Go.Proofs.YtlimlbhhbjaljaaW.PrintLast Go.Proofs.YtlimlbhhbjaljaaW.PrintMore

/-- How many interims come due in n ticks, and what is left. -/
def run : Nat → Int → Int × Int
  | 0, c => (0, c)
  | n + 1, c => let (d, x) := run n (tk c).1; (d + (if (tk c).2 then 1 else 0), x)

theorem run_zero (n : Nat) : run n 0 = (0, 0) := by
  induction n with
  | zero => rfl
  | succ n ih => simp [run, tk, ih]

theorem run_six (c : Int) (h0 : 1 ≤ c) (h1 : c ≤ 6) : run 6 c = (1, c) := by
  have h : c = 1 ∨ c = 2 ∨ c = 3 ∨ c = 4 ∨ c = 5 ∨ c = 6 := by omega
  rcases h with rfl | rfl | rfl | rfl | rfl | rfl <;> decide

theorem run_add (m n : Nat) (c : Int) : run (m + n) c = ((run m c).1 + (run n (run m c).2).1, (run n (run m c).2).2) := by
  induction m generalizing c with
  | zero => simp [run]
  | succ m ih =>
    rw [show m + 1 + n = (m + n) + 1 by omega]
    simp only [run, ih]
    rw [Prod.mk.injEq]
    constructor
    · omega
    · rfl

theorem run_all (n : Nat) (c : Int) (h0 : 0 ≤ c) (h1 : c ≤ 6) : run (6 * n) c = (if c > 0 then (n : Int) else 0, c) := by
  by_cases h : c > 0
  · rw [if_pos h]
    induction n with
    | zero => rfl
    | succ n ih =>
      rw [show 6 * (n + 1) = 6 * n + 6 by omega, run_add, ih, run_six c (by omega) h1]
      rw [Prod.mk.injEq]
      constructor
      · simp
      · rfl
  · obtain rfl : c = 0 := by omega
    rw [if_neg h, run_zero]

theorem tk_bd (c : Int) (h0 : 0 ≤ c) (h1 : c ≤ 6) : 0 ≤ (tk c).1 ∧ (tk c).1 ≤ 6 := by
  unfold tk
  split
  · simp
  · split
    · simp
    · constructor <;> simp <;> omega

theorem loop (t : Int) (ht0 : 0 ≤ t) (ht1 : t ≤ 255) (a b c x y z : Int) (hz0 : 0 ≤ z) (hz1 : z ≤ 6) (hx : a ≤ x) (hy : b ≤ y) (hcz : (c > 0 ↔ z > 0)) :
    ∀ (d k : Nat) (due i m : Int), 0 ≤ m → m ≤ 6 → 0 ≤ i → i + (d : Int) = t * 6 → 0 ≤ due → due ≤ i → run d m = (0 + ((if z > 0 then t else 0) - due), z) → d < k →
      portreevelaw17_MeterUp.l0 k t true due i a b c x y z x y m = some true := by
  intro d
  induction d with
  | zero =>
    intro k due i m hm0 hm1 hi0 hid hd0 hdi hrun hk
    obtain ⟨k, rfl⟩ : ∃ m, k = m + 1 := ⟨k - 1, by omega⟩
    simp only [portreevelaw17_MeterUp.l0]
    rw [w64 (show _ ≤ t by omega) (by omega), w64 (show _ ≤ t * 6 by omega) (by omega), if_neg (by omega)]
    simp only [run, Prod.mk.injEq] at hrun
    obtain ⟨h1, rfl⟩ := hrun
    by_cases hc : c > 0
    · have hzz := hcz.1 hc
      rw [if_pos hzz] at h1
      rw [if_pos hc, if_pos trivial, if_pos hx, if_pos hy, if_pos (by simp), if_pos (by omega), right_own, Option.bind_some]
      simp
      omega
    · have hzz : ¬ m > 0 := fun h => hc (hcz.2 h)
      rw [if_neg hzz] at h1
      rw [if_neg hc, if_pos trivial, if_pos hx, if_pos hy, if_pos (by simp), if_pos (by omega), right_own, Option.bind_some]
      simp
      omega
  | succ d ih =>
    intro k due i m hm0 hm1 hi0 hid hd0 hdi hrun hk
    obtain ⟨k, rfl⟩ : ∃ m, k = m + 1 := ⟨k - 1, by omega⟩
    simp only [portreevelaw17_MeterUp.l0]
    have hb := tk_bd m hm0 hm1
    rw [w64 (show _ ≤ t by omega) (by omega), w64 (show _ ≤ t * 6 by omega) (by omega), if_pos (by omega), tick _ _ _ hm0 hm1, Option.bind_some, w64 (show _ ≤ i + 1 by omega) (by omega)]
    simp only [run, Prod.mk.injEq] at hrun
    obtain ⟨h1, h2⟩ := hrun
    by_cases ht : (tk m).2 = true
    · rw [if_pos ht] at h1
      rw [if_pos ht, w64 (show _ ≤ due + 1 by omega) (by omega)]
      exact ih k (due + 1) (i + 1) _ hb.1 hb.2 (by omega) (by omega) (by omega) (by omega) (Prod.ext (by simp only; omega) h2) (by omega)
    · rw [if_neg ht] at h1
      rw [if_neg ht]
      exact ih k due (i + 1) _ hb.1 hb.2 (by omega) (by omega) (by omega) (by omega) (Prod.ext (by simp only; omega) h2) (by omega)

theorem MeterUp : portreevelaw17_MeterUp.Pure := by
  intro a b c i o t ha hb hc hi ho ht
  refine ⟨2000, ?_⟩
  rw [wf_u8] at ht
  have ha' := wf_u64.1 ha
  have hb' := wf_u64.1 hb
  unfold portreevelaw17_MeterUp.f
  rw [more_rounds (fun k => portreevelaw17_shown.mono k) shown_true (show 10 ≤ 2000 by decide), Option.bind_some, right_ref, Option.bind_some]
  by_cases hg : 0 ≤ c ∧ c ≤ 6
  · rw [if_pos (by simpa using hg), count a b c i o ha hb hi ho, Option.bind_some]
    obtain ⟨n, rfl⟩ : ∃ n : Nat, t = n := ⟨t.toNat, by omega⟩
    exact loop n (by omega) (by omega) a b c (top a i) (top b o) c hg.1 hg.2 (top_bd a i ha'.1 ha'.2).1 (top_bd b o hb'.1 hb'.2).1 Iff.rfl (6 * n) 2000 0 0 c hg.1 hg.2 (by omega) (by omega) (by omega) (by omega) (by rw [run_all n c hg.1 hg.2]; rw [Prod.mk.injEq]; constructor <;> simp) (by omega)
  · rw [if_neg (by simpa using hg)]
end Go.Proofs.Ytlimlbhhbjaljaa.Pure

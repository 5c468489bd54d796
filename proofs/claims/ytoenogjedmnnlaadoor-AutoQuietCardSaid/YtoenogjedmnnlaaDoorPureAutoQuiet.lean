/- Ticks are done one by one: some, and then some more, are all; none changes nothing. -/
import Derived.Test.YtoenogjedmnnlaaDoorSayAutoQuiet
import Derived.Test.YtoenogjedmnnlaaDoorBase
import Derived.Test.YtoenogjedmnnlaaDoorBase2
namespace Go.Proofs.YtoenogjedmnnlaaDoor.Pure
set_option linter.unusedVariables false
open Go Go.RowKit Go.Proofs.YtoenogjedmnnlaaDoor.Q Go.Proofs.YtoenogjedmnnlaaDoorK Go.Proofs.YtoenogjedmnnlaaDoorW.PrintWords Go.Proofs.YtoenogjedmnnlaaDoorW.PrintLast Go.Proofs.YtoenogjedmnnlaaDoorW.PrintMore

theorem quiet_law (m n : Int) (hm : 0 ≤ m ∧ m < 30) (hn : 0 ≤ n ∧ n < 30) (x1 x2 : Int) (e1 : wrap64 (Int.tmod x1 30) = m) (e2 : wrap64 (Int.tmod x2 30) = n) (a : A4) (ha : RA a) (b : A4) (hb : RA b) (hbe : b = itk m.toNat a) : ∀ (d k j : Nat) (c : A4), RA c → ((j + d : Nat) : Int) = m → c = itk j a → d + 20 < k →
    portreevelaw12_AutoQuiet.l0 k x1 x2 true (j : Int) a.1 a.2.1 a.2.2.1 a.2.2.2 b.1 b.2.1 b.2.2.1 b.2.2.2 c.1 c.2.1 c.2.2.1 c.2.2.2 = some true := by
  intro d
  induction d with
  | zero =>
    intro k j c hc hj hcj hk
    obtain ⟨k, rfl⟩ : ∃ m, k = m + 1 := ⟨k - 1, by omega⟩
    have hbc : b = c := by rw [hbe, hcj, show m.toNat = j by omega]
    have q1 := quiet_eq hb n k (by omega)
    have q2 := quiet_eq ha (m + n) k (by omega)
    have q3 := quiet_eq ha 0 k (by omega)
    have q4 := quiet_eq ha (-5) k (by omega)
    have e3 : itk (min (max n 0) 18).toNat b = itk (min (max (m + n) 0) 18).toNat a := by
      have h1 : itk (min (max n 0) 18).toNat b = itk n.toNat b := by
        by_cases h : n ≤ 18
        · rw [show (min (max n 0) 18).toNat = n.toNat by omega]
        · rw [itk_18 hb _ (by omega), itk_18 hb n.toNat (by omega)]
      have h2 : itk (min (max (m + n) 0) 18).toNat a = itk (m.toNat + n.toNat) a := by
        by_cases h : m + n ≤ 18
        · rw [show (min (max (m + n) 0) 18).toNat = m.toNat + n.toNat by omega]
        · rw [itk_18 ha _ (by omega), itk_18 ha (m.toNat + n.toNat) (by omega)]
      rw [h1, h2, itk_add, hbe]
    have e4 : itk (min (max (0 : Int) 0) 18).toNat a = a := rfl
    have e5 : itk (min (max (-5 : Int) 0) 18).toNat a = a := rfl
    rw [e4] at q3
    rw [e5] at q4
    rw [e3] at q1
    rw [portreevelaw12_AutoQuiet.l0, e1, e2, w64 (a := m + n) (by omega) (by omega), if_neg (by omega), if_pos rfl, hbc, if_pos (by simp), ← hbc, q1, Option.bind_some, q2, Option.bind_some, if_pos (by simp), q3, Option.bind_some, if_pos (by simp), q4, Option.bind_some]
    simp
  | succ d ih =>
    intro k j c hc hj hcj hk
    obtain ⟨k, rfl⟩ : ∃ m, k = m + 1 := ⟨k - 1, by omega⟩
    obtain ⟨t1, t2, _⟩ := tick_ok hc
    rw [portreevelaw12_AutoQuiet.l0, e1, if_pos (by omega), t1, Option.bind_some, w64 (by omega) (by omega), show ((j : Int) + 1) = ((j + 1 : Nat) : Int) by omega]
    exact ih k (j + 1) (tk c).1 t2 (by omega) (by rw [itk_add, ← hcj]; rfl) (by omega)
theorem AutoQuiet : portreevelaw12_AutoQuiet.Pure := by
  intro s c l i m n hs hc hl hi hm hn
  refine ⟨5000, ?_⟩
  have hi' := wf_u8.1 hi
  have hm' := wf_u8.1 hm
  have hn' := wf_u8.1 hn
  unfold portreevelaw12_AutoQuiet.f
  rw [shown_true _ (by omega), Option.bind_some, rright_eq _ _ _ _ _ (by omega), Option.bind_some]
  cases hr : rt s c l with
  | false => rw [if_neg (by simp)]
  | true =>
    rw [if_pos rfl]
    have hA : RA (s, c, l, i) := ⟨hr, hi'.1, by have := hi'.2; show i < 256; omega⟩
    have e1 : wrap64 (Int.tmod m 30) = m % 30 := by rw [Int.tmod_eq_emod_of_nonneg hm'.1, w64 (by omega) (by omega)]
    have e2 : wrap64 (Int.tmod n 30) = n % 30 := by rw [Int.tmod_eq_emod_of_nonneg hn'.1, w64 (by omega) (by omega)]
    have q := quiet_eq hA (m % 30) 5000 (by omega)
    simp only at q
    have hb : itk (min (max (m % 30) 0) 18).toNat (s, c, l, i) = itk (m % 30).toNat (s, c, l, i) := by
      by_cases h : m % 30 ≤ 18
      · rw [show (min (max (m % 30) 0) 18).toNat = (m % 30).toNat by omega]
      · rw [itk_18 hA _ (by omega), itk_18 hA (m % 30).toNat (by omega)]
    rw [e1, q, Option.bind_some]
    exact quiet_law (m % 30) (n % 30) (by omega) (by omega) m n e1 e2 (s, c, l, i) hA _ (itk_RA _ hA) hb (m % 30).toNat 5000 0 (s, c, l, i) hA (by omega) rfl (by omega)
end Go.Proofs.YtoenogjedmnnlaaDoor.Pure

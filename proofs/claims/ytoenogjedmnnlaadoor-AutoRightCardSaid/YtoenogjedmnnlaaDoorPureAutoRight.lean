/- What comes out, behind whatever events and ticks, is right. -/
import Derived.Test.YtoenogjedmnnlaaDoorSayAutoRight
import Derived.Test.YtoenogjedmnnlaaDoorBase
import Derived.Test.YtoenogjedmnnlaaDoorBase2
namespace Go.Proofs.YtoenogjedmnnlaaDoor.Pure
set_option linter.unusedVariables false
open Go Go.RowKit Go.Proofs.YtoenogjedmnnlaaDoor.Q Go.Proofs.YtoenogjedmnnlaaDoorK Go.Proofs.YtoenogjedmnnlaaDoorW.PrintWords Go.Proofs.YtoenogjedmnnlaaDoorW.PrintLast Go.Proofs.YtoenogjedmnnlaaDoorW.PrintMore

theorem does_in : ∀ e : Nat, e < 16 → ((List.range 10).all fun s => (List.range 6).all fun c => (List.range 4).all fun l => decide (rt (s : Int) (c : Int) (l : Int) = true → (auto_Do.f (s : Int) (c : Int) (l : Int) 0 (e : Int)).all (fun r => if r.2.2.2.2.2 = 0 then rt r.1 r.2.1 r.2.2.1 && decide (0 ≤ r.2.2.2.1) && decide (r.2.2.2.1 < 256) else decide (r = ((s : Int), (c : Int), (l : Int), 0, [], 1))) = true)) = true := by decide +kernel
theorem does {s c l i ev : Int} (h : RA (s, c, l, i)) : ∃ r, auto_Do.f s c l i ev = some r ∧ (r.2.2.2.2.2 = 0 ∧ RA (r.1, r.2.1, r.2.2.1, r.2.2.2.1) ∨ r.2.2.2.2.2 ≠ 0 ∧ r = (s, c, l, i, [], 1)) := by
  obtain ⟨h1, h2, h3⟩ := h
  have h2' : 0 ≤ i := h2
  have h3' : i < 256 := h3
  by_cases hin : 0 ≤ ev ∧ ev < 16
  · obtain ⟨e, rfl⟩ : ∃ e : Nat, ev = (e : Int) := ⟨ev.toNat, by omega⟩
    rw [do_zero s c l i _ h2' h3']
    obtain ⟨r, hr⟩ := do_some s c l 0 (e : Int)
    obtain ⟨s', c', l', hs, hc, hl, rfl, rfl, rfl⟩ := rt_nat h1
    have h4 := all240 (P := fun s c l => (auto_Do.f (s : Int) (c : Int) (l : Int) 0 (e : Int)).all (fun r => if r.2.2.2.2.2 = 0 then rt r.1 r.2.1 r.2.2.1 && decide (0 ≤ r.2.2.2.1) && decide (r.2.2.2.1 < 256) else decide (r = ((s : Int), (c : Int), (l : Int), 0, [], 1))) = true) (does_in e (by omega)) hs hc hl h1
    rw [hr] at h4
    refine ⟨sh6 i r, by rw [hr]; rfl, ?_⟩
    simp only [Option.all_some] at h4
    by_cases h0 : r.2.2.2.2.2 = 0
    · rw [if_pos h0] at h4
      simp only [Bool.and_eq_true, decide_eq_true_eq] at h4
      exact Or.inl ⟨h0, h4.1.1, by show 0 ≤ (i + r.2.2.2.1) % 256; omega, by show (i + r.2.2.2.1) % 256 < 256; omega⟩
    · rw [if_neg h0, decide_eq_true_eq] at h4
      rw [h4]
      refine Or.inr ⟨by simp [sh6], ?_⟩
      unfold sh6
      simp only [Prod.mk.injEq, true_and, and_true]
      omega
  · obtain ⟨r, hr⟩ := do_some s c l i ev
    refine ⟨r, hr, Or.inr ?_⟩
    rw [do_eq s c l i ev [] s false (next_out (by omega))] at hr
    obtain rfl := Option.some.inj hr
    exact ⟨by simp, rfl⟩
theorem right_loop (L : List Int) (hL : L.length ≤ 200) : ∀ (d k j : Nat) (a : A4), RA a → j + d = L.length → 2 * d + 1 < k → portreevelaw12_AutoRight.l0 k L true (j : Int) a.1 a.2.1 a.2.2.1 a.2.2.2 = some true := by
  intro d
  induction d with
  | zero =>
    intro k j a h hj hk
    obtain ⟨k, rfl⟩ : ∃ m, k = m + 1 := ⟨k - 1, by omega⟩
    rw [portreevelaw12_AutoRight.l0, if_neg (by omega), if_pos rfl, right_eq _ _ _ _ _ (by omega), Option.bind_some, h.1]
  | succ d ih =>
    intro k j a h hj hk
    obtain ⟨k, rfl⟩ : ∃ m, k = m + 2 := ⟨k - 2, by omega⟩
    have hw : wrap64 ((j : Int) + 1) = ((j + 1 : Nat) : Int) := by rw [w64 (by omega) (by omega)]; omega
    have step : ∀ b : A4, RA b → portreevelaw12_AutoRight.j2 (k + 1) L true (j : Int) b.1 b.2.1 b.2.2.1 b.2.2.2 = some true := by
      intro b hb
      rw [portreevelaw12_AutoRight.j2, rright_eq _ _ _ _ _ (by omega), Option.bind_some, hb.1, if_pos rfl, hw]
      exact ih k (j + 1) b hb (by omega) (by omega)
    rw [portreevelaw12_AutoRight.l0, if_pos (by omega), if_pos (by omega)]
    obtain ⟨r, hr, h2 | h2⟩ := does (ev := rd L (j : Int)) (show RA (a.1, a.2.1, a.2.2.1, a.2.2.2) from h)
    · rw [hr, Option.bind_some, if_pos h2.1]
      exact step (r.1, r.2.1, r.2.2.1, r.2.2.2.1) h2.2
    · rw [hr, Option.bind_some, if_neg h2.1, h2.2, if_neg (by simp)]
      obtain ⟨t1, t2, _⟩ := tick_ok h
      rw [t1, Option.bind_some]
      exact step (tk a).1 t2
theorem AutoRight : portreevelaw12_AutoRight.Pure := by
  intro s c l i L hs hc hl hi hL
  refine ⟨5000, ?_⟩
  have hi' := wf_u8.1 hi
  unfold portreevelaw12_AutoRight.f
  rw [shown_true _ (by omega), Option.bind_some, rright_eq _ _ _ _ _ (by omega), Option.bind_some]
  have hj : portreevelaw12_AutoRight.j0 5000 L true true s c l i = some true := by rw [portreevelaw12_AutoRight.j0, if_pos rfl]
  cases hr : rt s c l with
  | false => rw [if_neg (by simp), hj]
  | true =>
    rw [if_pos rfl]
    have hA : RA (s, c, l, i) := ⟨hr, hi'.1, by have := hi'.2; show i < 256; omega⟩
    by_cases h200 : (L.length : Int) > 200
    · rw [decide_eq_true h200, hj]
    · rw [decide_eq_false h200, portreevelaw12_AutoRight.j0, if_neg (by simp)]
      exact right_loop L (by omega) L.length 4999 0 (s, c, l, i) hA (by omega) (by omega)
end Go.Proofs.YtoenogjedmnnlaaDoor.Pure

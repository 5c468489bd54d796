/- Which automata are right, and what an event, a tick, and many ticks do, are as the document says. -/
import Derived.Test.YtoenogjedmnnlaaDoorSayAutoTells
import Derived.Test.YtoenogjedmnnlaaDoorBase
import Derived.Test.YtoenogjedmnnlaaDoorBase2
namespace Go.Proofs.YtoenogjedmnnlaaDoor.Pure
set_option linter.unusedVariables false
open Go Go.RowKit Go.Proofs.YtoenogjedmnnlaaDoor.Q Go.Proofs.YtoenogjedmnnlaaDoorK Go.Proofs.YtoenogjedmnnlaaDoorW.PrintWords Go.Proofs.YtoenogjedmnnlaaDoorW.PrintLast Go.Proofs.YtoenogjedmnnlaaDoorW.PrintMore

theorem do_len {s c l i ev : Int} {r : R6} (h : auto_Do.f s c l i ev = some r) : r.2.2.2.2.1.length ≤ 5 := by
  obtain ⟨⟨xs, nx, is⟩, ht, hs⟩ := next_some s ev
  rw [do_eq s c l i ev xs nx is ht] at h
  obtain rfl := Option.some.inj h
  cases is
  · simp
  · exact hs
theorem AutoTells : portreevelaw12_AutoTells.Pure := by
  intro s c l i ev t hs hc hl hi hev ht
  refine ⟨5000, ?_⟩
  have hi' := wf_u8.1 hi
  unfold portreevelaw12_AutoTells.f
  rw [shown_true _ (by omega), Option.bind_some]
  have hj : portreevelaw12_AutoTells.j0 5000 ev t true true s c l i = some true := by rw [portreevelaw12_AutoTells.j0, if_pos rfl]
  by_cases h1 : t < 0
  · rw [if_pos h1, hj]
  rw [if_neg h1]
  by_cases h2 : t > 1000
  · rw [decide_eq_true h2, hj]
  rw [decide_eq_false h2, portreevelaw12_AutoTells.j0, if_neg (by simp), rright_eq _ _ _ _ _ (by omega), Option.bind_some, right_eq _ _ _ _ _ (by omega), Option.bind_some, if_neg (by simp)]
  unfold auto_Bound.f
  rw [Option.bind_some, show ((18 : Int) != 18) = false by simp, portreevelaw12_AutoTells.j1, if_neg (by simp)]
  cases hr : rt s c l with
  | false => rw [if_neg (by simp)]
  | true =>
    rw [if_pos rfl]
    have hA : RA (s, c, l, i) := ⟨hr, hi'.1, by have := hi'.2; show i < 256; omega⟩
    obtain ⟨r, hd⟩ := do_some s c l i ev
    have hlen := do_len hd
    obtain ⟨t1, t2, t3⟩ := tick_ok hA
    have q1 := quiet_eq hA t 4998 (by omega)
    have q2 := rquiet_eq hA t (by omega) 4998 (by omega)
    have e : itk (min (max t 0) 18).toNat (s, c, l, i) = itk (min t 100).toNat (s, c, l, i) := by
      by_cases h18 : t ≤ 18
      · rw [show (min (max t 0) 18).toNat = (min t 100).toNat by omega]
      · rw [itk_18 hA (min (max t 0) 18).toNat (by omega), itk_18 hA (min t 100).toNat (by omega)]
    simp only at t1 q1 q2
    rw [hd, Option.bind_some, rdo_eq _ _ _ _ _ _ (by omega), hd, Option.bind_some, t1, Option.bind_some, rtick_eq _ _ _ _ _ (by omega), t1, Option.bind_some, if_pos rfl, if_pos (by simp), ints_eq _ _ (by omega) (by omega), Option.bind_some, if_pos rfl, if_pos rfl, if_pos (by simp), ints_eq _ _ (by show (tk (s, c, l, i)).2.length ≤ 1000000; omega) (by show (tk (s, c, l, i)).2.length < 4998; omega), Option.bind_some, if_pos rfl, q1, Option.bind_some, q2, Option.bind_some, e]
    simp
end Go.Proofs.YtoenogjedmnnlaaDoor.Pure

/- Left alone, it sends as often as its counter says, and no more; then it is told to be finished. -/
import Derived.Test.YtoenogjedmnnlaaDoorSayAutoSends
import Derived.Test.YtoenogjedmnnlaaDoorBase
import Derived.Test.YtoenogjedmnnlaaDoorBase2
namespace Go.Proofs.YtoenogjedmnnlaaDoor.Pure
set_option linter.unusedVariables false
open Go Go.RowKit Go.Proofs.YtoenogjedmnnlaaDoor.Q Go.Proofs.YtoenogjedmnnlaaDoorK Go.Proofs.YtoenogjedmnnlaaDoorW.PrintWords Go.Proofs.YtoenogjedmnnlaaDoorW.PrintLast Go.Proofs.YtoenogjedmnnlaaDoorW.PrintMore

theorem sends_inv (i : Int) : ∀ (k : Nat) (x1 x5 : Bool) (x8 x9 x13 x14 x15 s c l j : Int), portreevelaw12_AutoSends.l0 k x1 x5 x8 x9 x13 x14 x15 s c l ((i + j) % 256) = portreevelaw12_AutoSends.l0 k x1 x5 x8 x9 x13 x14 x15 s c l j := by
  intro k
  induction k using Nat.strongRecOn with
  | _ k ih =>
  intro x1 x5 x8 x9 x13 x14 x15 s c l j
  cases k with
  | zero => rfl
  | succ k =>
    have hj3 : ∀ (m : Nat) (L : List Int) (y13 y14 : Int) (q : A4), m ≤ k → portreevelaw12_AutoSends.j3 m x1 x5 x8 x9 y13 y14 x15 L q.1 q.2.1 q.2.2.1 ((i + q.2.2.2) % 256) = portreevelaw12_AutoSends.j3 m x1 x5 x8 x9 y13 y14 x15 L q.1 q.2.1 q.2.2.1 q.2.2.2 := by
      intro m L y13 y14 q hm
      cases m with
      | zero => rfl
      | succ m =>
        rw [portreevelaw12_AutoSends.j3, portreevelaw12_AutoSends.j3]
        cases portreeveref11_Has.f m L 4 with
        | none => rfl
        | some b => cases b <;> exact ih m (by omega) _ _ _ _ _ _ _ _ _ _ _
    have hj2 : ∀ (m : Nat) (L : List Int) (b : Bool) (q : A4), m ≤ k → portreevelaw12_AutoSends.j2 m x1 x5 x8 x9 x13 x14 x15 L b q.1 q.2.1 q.2.2.1 ((i + q.2.2.2) % 256) = portreevelaw12_AutoSends.j2 m x1 x5 x8 x9 x13 x14 x15 L b q.1 q.2.1 q.2.2.1 q.2.2.2 := by
      intro m L b q hm
      cases m with
      | zero => rfl
      | succ m =>
        rw [portreevelaw12_AutoSends.j2, portreevelaw12_AutoSends.j2]
        cases b <;> exact hj3 m L _ _ q (by omega)
    rw [portreevelaw12_AutoSends.l0, portreevelaw12_AutoSends.l0]
    unfold auto_Bound.f
    rw [Option.bind_some, Option.bind_some]
    by_cases h : x15 < 18
    · rw [if_pos h, if_pos h, tick_shift]
      cases auto_Tick.f s c l j with
      | none => rfl
      | some r =>
        rw [Option.map_some, Option.bind_some, Option.bind_some]
        simp only [sh5]
        cases portreeveref11_Has.f k r.2.2.2.2 7 with
        | none => rfl
        | some b =>
          rw [Option.bind_some, Option.bind_some]
          cases b with
          | true =>
            rw [if_pos rfl, if_pos rfl]
            exact hj2 k r.2.2.2.2 true (r.1, r.2.1, r.2.2.1, r.2.2.2.1) (Nat.le_refl _)
          | false =>
            rw [if_neg (by simp), if_neg (by simp)]
            cases portreeveref11_Has.f k r.2.2.2.2 10 with
            | none => rfl
            | some b =>
              rw [Option.bind_some, Option.bind_some]
              exact hj2 k r.2.2.2.2 b (r.1, r.2.1, r.2.2.1, r.2.2.2.1) (Nat.le_refl _)
    · rw [if_neg h, if_neg h]
theorem sends_1 : portreevelaw12_AutoSends.l0 4999 true true 0 2 1 0 0 4 1 3 2 = some true := by decide +kernel
theorem sends_2 : portreevelaw12_AutoSends.l0 4999 false true 0 5 1 0 0 6 4 3 1 = some true := by decide +kernel
theorem AutoSends : portreevelaw12_AutoSends.Pure := by
  intro i close hi
  refine ⟨5000, ?_⟩
  have hi' := wf_u8.1 hi
  have hi1 : i < 256 := by have := hi'.2; omega
  have h1 : auto_Do.f 1 0 0 0 0 = some (6, 4, 3, 1, [5, 7], 0) := by decide +kernel
  have h2 : auto_Do.f 6 4 3 1 3 = some (4, 1, 3, 2, [5, 10], 0) := by decide +kernel
  unfold portreevelaw12_AutoSends.f
  rw [shown_true _ (by omega), Option.bind_some, do_zero 1 0 0 i 0 hi'.1 hi1, h1, Option.map_some, Option.bind_some]
  simp only [sh6]
  cases close with
  | true =>
    rw [if_pos rfl, do_shift, h2, Option.map_some, Option.bind_some]
    simp only [sh6]
    rw [if_pos trivial, portreevelaw12_AutoSends.j0, sends_inv]
    exact sends_1
  | false =>
    rw [if_neg (by simp), portreevelaw12_AutoSends.j0, sends_inv]
    exact sends_2
end Go.Proofs.YtoenogjedmnnlaaDoor.Pure

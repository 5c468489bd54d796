/- The interim and the stop of a session's number that may be, with a cause that may be, are ops that may be done; they tell the meter's octets. -/
import Derived.Test.YtlimlbhhbjaljaaSayMeterMay
import Derived.Test.YtlimlbhhbjaljaaBase
namespace Go.Proofs.Ytlimlbhhbjaljaa.Pure
set_option linter.unusedVariables false
open Go Go.RowKit Go.Proofs.Ytlimlbhhbjaljaa.Q Go.Proofs.YtlimlbhhbjaljaaK Go.Proofs.YtlimlbhhbjaljaaW.PrintWords Go.Proofs.YtlimlbhhbjaljaaW.PrintLast Go.Proofs.YtlimlbhhbjaljaaW.PrintMore

theorem may_note (k : Nat) (a b id : Int) : portreeveref04_May.f (k + 1) 2 id 0 0 ⟨#[45]⟩ a b 0 0 = some (decide (0 ≤ id ∧ id ≤ 1000000000)) := by
  unfold portreeveref04_May.f
  have hn : portreeveref04_name.f ⟨#[45]⟩ = some true := by decide
  rw [hn, Option.bind_some, if_neg (by decide), if_neg (by decide)]
  by_cases h0 : id < 0
  · rw [if_pos h0]
    simp only [portreeveref04_May.j0, if_true]
    congr 1
    rw [eq_comm, decide_eq_false_iff_not]
    omega
  · rw [if_neg h0]
    by_cases h1 : id > 1000000000
    · rw [if_pos h1]
      simp only [portreeveref04_May.j0, if_true]
      congr 1
      rw [eq_comm, decide_eq_false_iff_not]
      omega
    · rw [if_neg h1, if_neg (by decide)]
      simp only [portreeveref04_May.j0]
      rw [if_neg (by decide), if_pos trivial, if_pos (by decide), if_pos (by decide), if_pos (by decide)]
      congr 1
      rw [show decide ((0 : Int) ≤ 255) = true from by decide, eq_comm, decide_eq_true_eq]
      omega

theorem may_stop (k : Nat) (a b id ca : Int) : portreeveref04_May.f (k + 1) 3 id 0 0 ⟨#[45]⟩ a b ca 0 = some (decide ((0 ≤ id ∧ id ≤ 1000000000) ∧ 0 ≤ ca ∧ ca ≤ 255)) := by
  unfold portreeveref04_May.f
  have hn : portreeveref04_name.f ⟨#[45]⟩ = some true := by decide
  rw [hn, Option.bind_some, if_neg (by decide), if_neg (by decide)]
  by_cases h0 : id < 0
  · rw [if_pos h0]
    simp only [portreeveref04_May.j0, if_true]
    congr 1
    rw [eq_comm, decide_eq_false_iff_not]
    omega
  · rw [if_neg h0]
    by_cases h1 : id > 1000000000
    · rw [if_pos h1]
      simp only [portreeveref04_May.j0, if_true]
      congr 1
      rw [eq_comm, decide_eq_false_iff_not]
      omega
    · rw [if_neg h1, if_neg (by decide)]
      simp only [portreeveref04_May.j0]
      rw [if_neg (by decide), if_pos trivial, if_pos (by decide), if_pos (by decide)]
      by_cases h2 : ca ≥ 0
      · rw [if_pos h2]
        congr 1
        rw [decide_eq_decide]
        omega
      · rw [if_neg h2]
        congr 1
        rw [eq_comm, decide_eq_false_iff_not]
        omega

theorem MeterMay : portreevelaw17_MeterMay.Pure := by
  intro a b c id ca ha hb hc hid hca
  refine ⟨10, ?_⟩
  unfold portreevelaw17_MeterMay.f
  rw [shown_true, Option.bind_some, right_ref, Option.bind_some]
  by_cases hg : 0 ≤ c ∧ c ≤ 6
  · rw [if_pos (by simpa using hg)]
    simp only [meter_Note.f, meter_Stop.f, Option.bind_some]
    by_cases h0 : id ≥ 0
    · rw [if_pos h0]
      simp only [portreevelaw17_MeterMay.j0, if_true]
      rw [may_note, Option.bind_some, may_stop, Option.bind_some]
      by_cases h1 : id ≤ 1000000000
      · rw [if_pos (by simp [h0, h1]), if_pos (by simpa using h1)]
        by_cases h2 : ca ≥ 0
        · rw [if_pos h2, if_pos (by simp [h0, h1, h2])]
          simp
        · rw [if_neg h2, if_pos (by simp [h2])]
          simp
      · rw [if_pos (by simp [h0, h1]), if_neg (by simpa using h1), if_pos (by simp [h1])]
        simp
    · rw [if_neg h0]
      simp only [portreevelaw17_MeterMay.j0, if_true]
      rw [may_note, Option.bind_some, may_stop, Option.bind_some, if_pos (by simp [h0]), if_neg (by decide), if_pos (by simp [h0])]
      simp
  · rw [if_neg (by simpa using hg)]
end Go.Proofs.Ytlimlbhhbjaljaa.Pure

/- What each event does in each state, which states are timed, and their names, are as the document says. -/
import Derived.Test.YtdjicabmofbidaaDoorSayFsmTells
import Derived.Test.YtdjicabmofbidaaDoorBase
namespace Go.Proofs.YtdjicabmofbidaaDoor.Pure
set_option linter.unusedVariables false
open Go Go.RowKit Go.Proofs.YtdjicabmofbidaaDoor.Q Go.Proofs.YtdjicabmofbidaaDoorK Go.Proofs.YtdjicabmofbidaaDoorW.PrintWords Go.Proofs.YtdjicabmofbidaaDoorW.PrintLast Go.Proofs.YtdjicabmofbidaaDoorW.PrintMore

theorem tells_in : ∀ s : Nat, s < 10 → ∀ e : Nat, e < 16 → portreeveref11_Next.f 50 (s : Int) (e : Int) = fsm_Next.f (s : Int) (e : Int) := by decide +kernel
theorem ints_in : ∀ s : Nat, s < 10 → ∀ e : Nat, e < 16 → (fsm_Next.f (s : Int) (e : Int)).bind (fun t => portreeveref11_Ints.f 50 t.1 t.1) = some true := by decide +kernel
theorem ints_nil : portreeveref11_Ints.f 50 [] [] = some true := by decide +kernel
theorem rnames_in : ∀ s : Nat, s < 10 → (portreeveref11_Name.f 50 (s : Int)).map (fun x => x.data.toList) = some (fsm_nm s) := by decide +kernel
theorem rname_loop (a : Int) (h : ¬ (0 ≤ a ∧ a < 10)) (xs : List ByteArray) : ∀ d k i : Nat, i + d = 10 → d < k → portreeveref11_Name.l0 k a xs (i : Int) = some ⟨#[]⟩ := by
  intro d
  induction d with
  | zero =>
    intro k i hi hk
    obtain ⟨k, rfl⟩ : ∃ m, k = m + 1 := ⟨k - 1, by omega⟩
    simp only [portreeveref11_Name.l0]
    rw [if_neg (by omega)]
  | succ d ih =>
    intro k i hi hk
    obtain ⟨k, rfl⟩ : ∃ m, k = m + 1 := ⟨k - 1, by omega⟩
    simp only [portreeveref11_Name.l0]
    rw [if_pos (by omega), if_neg (by omega), w64 (by omega) (by omega)]
    exact ih k (i + 1) (by omega) (by omega)
theorem rnext_out {a b : Int} (h : ¬ (0 ≤ a ∧ a < 10 ∧ 0 ≤ b ∧ b < 16)) : portreeveref11_Next.f 50 a b = some ([], a, false) := by
  unfold portreeveref11_Next.f
  have hj : portreeveref11_Next.j0 50 a b true = some ([], a, false) := by
    simp only [portreeveref11_Next.j0, if_true]
    rfl
  by_cases h1 : a < 0
  · rw [if_pos h1, hj]
  rw [if_neg h1]
  by_cases h2 : a > 9
  · rw [if_pos h2, hj]
  rw [if_neg h2]
  by_cases h3 : b < 0
  · rw [if_pos h3, hj]
  rw [if_neg h3, if_pos (by omega), hj]
theorem FsmTells : portreevelaw11_FsmTells.Pure := by
  intro a b ha hb
  refine ⟨50, ?_⟩
  have hn : ∃ n m, fsm_Name.f a = some n ∧ portreeveref11_Name.f 50 a = some m ∧ (n.toList == m.toList) = true := by
    by_cases h : 0 ≤ a ∧ a < 10
    · obtain ⟨s, rfl⟩ : ∃ s : Nat, a = (s : Int) := ⟨a.toNat, by omega⟩
      obtain ⟨n, h1, h2⟩ := name_in s (by omega)
      obtain ⟨m, h3, h4⟩ := Option.map_eq_some_iff.1 (rnames_in s (by omega))
      exact ⟨n, m, h1, h3, by rw [h2, ByteArray.toList_eq m, h4]; simp⟩
    · exact ⟨_, _, name_out h, rname_loop a h _ 10 50 0 (by omega) (by omega), by simp⟩
  obtain ⟨n, m, hn1, hn2, hn3⟩ := hn
  have ht : ∃ t, fsm_Next.f a b = some t ∧ portreeveref11_Next.f 50 a b = some t ∧ portreeveref11_Ints.f 50 t.1 t.1 = some true := by
    rcases in_or_out a b with ⟨s, e, hs, he, rfl, rfl⟩ | h
    · have h1 := tells_in s hs e he
      have h2 := ints_in s hs e he
      obtain ⟨t, h3, h4⟩ := Option.bind_eq_some_iff.1 h2
      exact ⟨t, h3, h1.trans h3, h4⟩
    · exact ⟨_, next_out h, rnext_out h, ints_nil⟩
  obtain ⟨t, h1, h2, h3⟩ := ht
  have h4 : portreeveref11_Timed.f a = fsm_Timed.f a := rfl
  unfold portreevelaw11_FsmTells.f
  rw [shown_true, Option.bind_some, h1, Option.bind_some, h2, Option.bind_some, if_pos rfl, h3, Option.bind_some, if_pos rfl, if_pos rfl, if_pos (by simp), h4, timed_eq, Option.bind_some, Option.bind_some, if_pos (by simp), hn1, Option.bind_some, hn2, Option.bind_some, hn3]
end Go.Proofs.YtdjicabmofbidaaDoor.Pure

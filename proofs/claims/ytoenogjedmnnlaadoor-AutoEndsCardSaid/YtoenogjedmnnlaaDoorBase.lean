/- What the automaton's functions compute, over plain numbers: the document's answer is the program's; a tick, as a function; numbers of requests go along. -/
import Derived.Test.YtoenogjedmnnlaaDoorQx2
import Derived.Test.YtoenogjedmnnlaaDoorQx3
import Derived.Test.YtoenogjedmnnlaaDoorQx4
import Derived.Test.YtoenogjedmnnlaaDoorQx5
import Derived.Test.YtoenogjedmnnlaaDoorQx6
import Derived.Test.YtoenogjedmnnlaaDoorQx10
import Derived.Test.YtoenogjedmnnlaaDoorQx11
import Derived.Test.YtoenogjedmnnlaaDoorPureKit
namespace Go.Proofs.YtoenogjedmnnlaaDoor.Pure
set_option linter.unusedVariables false
open Go Go.RowKit Go.Proofs.YtoenogjedmnnlaaDoor.Q Go.Proofs.YtoenogjedmnnlaaDoorK Go.Proofs.YtoenogjedmnnlaaDoorW.PrintWords Go.Proofs.YtoenogjedmnnlaaDoorW.PrintLast Go.Proofs.YtoenogjedmnnlaaDoorW.PrintMore
set_option maxRecDepth 100000

theorem in_or_out (a b : Int) : (∃ s e : Nat, s < 10 ∧ e < 16 ∧ a = (s : Int) ∧ b = (e : Int)) ∨ ¬ (0 ≤ a ∧ a < 10 ∧ 0 ≤ b ∧ b < 16) := by
  by_cases h : 0 ≤ a ∧ a < 10 ∧ 0 ≤ b ∧ b < 16
  · exact Or.inl ⟨a.toNat, b.toNat, by omega, by omega, by omega, by omega⟩
  · exact Or.inr h
theorem next_out {a b : Int} (h : ¬ (0 ≤ a ∧ a < 10 ∧ 0 ≤ b ∧ b < 16)) : fsm_Next.f a b = some ([], a, false) := by
  unfold fsm_Next.f
  rw [if_neg h]
theorem timed_eq (a : Int) : fsm_Timed.f a = some (decide (4 ≤ a ∧ a ≤ 8)) := by
  unfold fsm_Timed.f
  by_cases h : a ≥ 4
  · rw [if_pos h]
    simp [h]
  · rw [if_neg h, decide_eq_false (fun h2 => h h2.1)]
theorem rtimed_eq (a : Int) : portreeveref11_Timed.f a = some (decide (4 ≤ a ∧ a ≤ 8)) := timed_eq a
theorem rnext_out {a b : Int} (h : ¬ (0 ≤ a ∧ a < 10 ∧ 0 ≤ b ∧ b < 16)) : portreeveref11_Next.f 50 a b = some ([], a, false) := by
  unfold portreeveref11_Next.f
  have hj : portreeveref11_Next.j0 50 a b true = some ([], a, false) := by
    simp only [portreeveref11_Next.j0, if_true]
    rfl
  by_cases h1 : a < 0
  · rw [if_pos h1, hj]
  rw [if_neg h1]
  by_cases h2 : a > 9
  · rw [if_pos h2, hj]
  rw [if_neg h2]
  by_cases h3 : b < 0
  · rw [if_pos h3, hj]
  rw [if_neg h3, if_pos (by omega), hj]
theorem next_in : ∀ s : Nat, s < 10 → ∀ e : Nat, e < 16 → portreeveref11_Next.f 50 (s : Int) (e : Int) = fsm_Next.f (s : Int) (e : Int) := by decide +kernel
theorem next_short : ∀ s : Nat, s < 10 → ∀ e : Nat, e < 16 → (fsm_Next.f (s : Int) (e : Int)).all (fun t => decide (t.1.length ≤ 5)) = true := by decide +kernel
theorem next_some (a b : Int) : ∃ t, fsm_Next.f a b = some t ∧ t.1.length ≤ 5 := by
  rcases in_or_out a b with ⟨s, e, hs, he, rfl, rfl⟩ | h
  · have h1 := next_short s hs e he
    have h2 : ∃ t, fsm_Next.f (s : Int) (e : Int) = some t := by
      unfold fsm_Next.f
      split <;> exact ⟨_, rfl⟩
    obtain ⟨t, ht⟩ := h2
    rw [ht] at h1
    exact ⟨t, ht, by simpa using h1⟩
  · exact ⟨_, next_out h, by simp⟩
theorem rnext_eq (a b : Int) (k : Nat) (hk : 50 ≤ k) : portreeveref11_Next.f k a b = fsm_Next.f a b := by
  obtain ⟨t, ht, _⟩ := next_some a b
  rw [ht]
  refine at_rounds (portreeveref11_Next.mono a b) hk ?_
  rw [← ht]
  rcases in_or_out a b with ⟨s, e, hs, he, rfl, rfl⟩ | h
  · exact next_in s hs e he
  · rw [rnext_out h, next_out h]

/-! rows of numbers -/
theorem has_loop (xs : List Int) (n : Int) (hl : xs.length ≤ 1000000) : ∀ d k i : Nat, i + d = xs.length → d < k → portreeveref11_Has.l0 k xs n (i : Int) = some ((xs.drop i).contains n) := by
  intro d
  induction d with
  | zero =>
    intro k i hi hk
    obtain ⟨k, rfl⟩ : ∃ m, k = m + 1 := ⟨k - 1, by omega⟩
    simp only [portreeveref11_Has.l0]
    rw [if_neg (by omega), List.drop_of_length_le (by omega)]
    rfl
  | succ d ih =>
    intro k i hi hk
    obtain ⟨k, rfl⟩ : ∃ m, k = m + 1 := ⟨k - 1, by omega⟩
    have hlt : i < xs.length := by omega
    have hrd : rd xs (i : Int) = xs[i] := by unfold rd; simp [List.getD_eq_getElem?_getD, List.getElem?_eq_getElem hlt]
    simp only [portreeveref11_Has.l0]
    rw [if_pos (by omega), if_pos (by omega), hrd, List.drop_eq_getElem_cons hlt]
    by_cases h : xs[i] = n
    · rw [if_pos h]
      simp [h]
    · have h2 : (n == xs[i]) = false := by rw [beq_eq_false_iff_ne]; exact fun e => h e.symm
      rw [if_neg h, w64 (by omega) (by omega), show ((i : Int) + 1) = ((i + 1 : Nat) : Int) by omega, ih k (i + 1) (by omega) (by omega)]
      rw [List.contains_cons, h2, Bool.false_or]
theorem has_eq (xs : List Int) (n : Int) (k : Nat) (hl : xs.length ≤ 1000000) (hk : xs.length < k) : portreeveref11_Has.f k xs n = some (xs.contains n) := by
  unfold portreeveref11_Has.f
  have := has_loop xs n hl xs.length k 0 (by omega) hk
  simpa using this
theorem ints_loop (xs : List Int) (hl : xs.length ≤ 1000000) : ∀ d k i : Nat, i + d = xs.length → d < k → portreeveref11_Ints.l0 k xs xs (i : Int) = some true := by
  intro d
  induction d with
  | zero =>
    intro k i hi hk
    obtain ⟨k, rfl⟩ : ∃ m, k = m + 1 := ⟨k - 1, by omega⟩
    simp only [portreeveref11_Ints.l0]
    rw [if_neg (by omega)]
  | succ d ih =>
    intro k i hi hk
    obtain ⟨k, rfl⟩ : ∃ m, k = m + 1 := ⟨k - 1, by omega⟩
    simp only [portreeveref11_Ints.l0]
    rw [if_pos (by omega), if_pos (by omega), if_pos (by omega), if_pos trivial, w64 (by omega) (by omega), show ((i : Int) + 1) = ((i + 1 : Nat) : Int) by omega]
    exact ih k (i + 1) (by omega) (by omega)
theorem ints_eq (xs : List Int) (k : Nat) (hl : xs.length ≤ 1000000) (hk : xs.length < k) : portreeveref11_Ints.f k xs xs = some true := by
  unfold portreeveref11_Ints.f
  rw [if_pos rfl]
  exact ints_loop xs hl xs.length k 0 (by omega) hk

/-! what an event does -/
abbrev R6 := Int × Int × Int × Int × List Int × Int
def fin (nx : Int) (xs : List Int) (F : Int × Int × Int) : R6 := (nx, F.1, (if 4 ≤ nx ∧ nx ≤ 8 then F.2.1 else 0), F.2.2, xs, 0)
theorem do_eq (s c l i ev : Int) (xs : List Int) (nx : Int) (is : Bool) (h : fsm_Next.f s ev = some (xs, nx, is)) :
    auto_Do.f s c l i ev = some (if is = true then fin nx xs (xs.foldl (auto_st (xs.contains 10)) (c, l, i)) else (s, c, l, i, [], 1)) := by
  unfold auto_Do.f
  rw [h, Option.bind_some]
  cases is
  · rfl
  · rw [if_pos rfl, timed_eq, Option.bind_some, if_pos rfl]
    unfold fin
    simp only [decide_eq_true_eq]
theorem rdo_loop (xs : List Int) (nx s : Int) (ends : Bool) (hl : xs.length ≤ 1000000) : ∀ (d k i : Nat) (c l id : Int), i + d = xs.length → 2 * d < k →
    portreeveref12_Do.l0 k xs nx ends (i : Int) s c l id = some (fin nx xs ((xs.drop i).foldl (auto_st ends) (c, l, id))) := by
  intro d
  induction d with
  | zero =>
    intro k i c l id hi hk
    obtain ⟨k, rfl⟩ : ∃ m, k = m + 1 := ⟨k - 1, by omega⟩
    simp only [portreeveref12_Do.l0]
    rw [if_neg (by omega), List.drop_of_length_le (by omega), rtimed_eq, Option.bind_some]
    unfold fin
    simp only [decide_eq_true_eq, List.foldl_nil]
    split <;> rfl
  | succ d ih =>
    intro k i c l id hi hk
    obtain ⟨k, rfl⟩ : ∃ m, k = m + 2 := ⟨k - 2, by omega⟩
    have hlt : i < xs.length := by omega
    have hrd : rd xs (i : Int) = xs[i] := by unfold rd; simp [List.getD_eq_getElem?_getD, List.getElem?_eq_getElem hlt]
    have hw : wrap64 ((i : Int) + 1) = ((i + 1 : Nat) : Int) := by rw [w64 (by omega) (by omega)]; omega
    have hi1 := fun k c l id => ih k (i + 1) c l id (by omega)
    rw [List.drop_eq_getElem_cons hlt, List.foldl_cons]
    rw [portreeveref12_Do.l0, if_pos (by omega), if_pos (by omega), hrd, hw]
    generalize xs[i] = x
    by_cases h5 : x = 5
    · rw [if_pos h5]
      cases ends
      · rw [if_neg (by simp), hi1 _ _ _ _ (by omega)]
        simp [auto_st, h5]
      · rw [if_pos rfl, hi1 _ _ _ _ (by omega)]
        simp [auto_st, h5]
    rw [if_neg h5]
    by_cases h6 : x = 6
    · rw [if_pos h6, hi1 _ _ _ _ (by omega)]
      simp [auto_st, h6]
    rw [if_neg h6]
    have hm : mx 0 (wrap64 (c - 1)) = max (wrap64 (c - 1)) 0 := by unfold mx; omega
    by_cases h7 : x = 7
    · rw [if_pos h7, show (x == 7) = true by simp [h7], portreeveref12_Do.j1, if_pos rfl, hw, hi1 _ _ _ _ (by omega), hm]
      simp [auto_st, h7]
    rw [if_neg h7]
    by_cases h10 : x = 10
    · rw [show (x == 10) = true by simp [h10], portreeveref12_Do.j1, if_pos rfl, hw, hi1 _ _ _ _ (by omega), hm]
      simp [auto_st, h10]
    · rw [show (x == 10) = false by simp [h10], portreeveref12_Do.j1, if_neg (by simp), hw, hi1 _ _ _ _ (by omega)]
      simp [auto_st, h5, h6, h7, h10]
theorem rdo_eq (s c l i ev : Int) (k : Nat) (hk : 60 ≤ k) : portreeveref12_Do.f k s c l i ev = auto_Do.f s c l i ev := by
  obtain ⟨⟨xs, nx, is⟩, ht, hs⟩ := next_some s ev
  rw [do_eq s c l i ev xs nx is ht]
  unfold portreeveref12_Do.f
  rw [rnext_eq _ _ _ (by omega), ht, Option.bind_some]
  have hs' : xs.length ≤ 5 := hs
  cases is
  · rfl
  · rw [if_pos rfl, if_pos rfl, has_eq _ _ _ (by omega) (by omega), Option.bind_some]
    have := rdo_loop xs nx s (xs.contains 10) (by omega) xs.length k 0 c l i (by omega) (by omega)
    simpa using this
theorem rtick_eq (s c l i : Int) (k : Nat) (hk : 60 ≤ k) : portreeveref12_Tick.f k s c l i = auto_Tick.f s c l i := by
  unfold portreeveref12_Tick.f auto_Tick.f
  rw [rdo_eq _ _ _ _ _ _ hk, rdo_eq _ _ _ _ _ _ hk]
end Go.Proofs.YtoenogjedmnnlaaDoor.Pure

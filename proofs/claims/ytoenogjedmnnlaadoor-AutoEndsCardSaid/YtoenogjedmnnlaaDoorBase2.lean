/- A tick, as a function on right automata; many ticks; behind Bound() of them nothing changes. -/
import Derived.Test.YtoenogjedmnnlaaDoorQx2
import Derived.Test.YtoenogjedmnnlaaDoorQx4
import Derived.Test.YtoenogjedmnnlaaDoorQx5
import Derived.Test.YtoenogjedmnnlaaDoorQx6
import Derived.Test.YtoenogjedmnnlaaDoorQx12
import Derived.Test.YtoenogjedmnnlaaDoorPureKit
import Derived.Test.YtoenogjedmnnlaaDoorBase
namespace Go.Proofs.YtoenogjedmnnlaaDoor.Pure
set_option linter.unusedVariables false
open Go Go.RowKit Go.Proofs.YtoenogjedmnnlaaDoor.Q Go.Proofs.YtoenogjedmnnlaaDoorK Go.Proofs.YtoenogjedmnnlaaDoorW.PrintWords Go.Proofs.YtoenogjedmnnlaaDoorW.PrintLast Go.Proofs.YtoenogjedmnnlaaDoorW.PrintMore
set_option maxRecDepth 100000

theorem fold_shift (ends : Bool) (i : Int) : ∀ (xs : List Int) (c l j : Int), xs.foldl (auto_st ends) (c, l, (i + j) % 256) = ((xs.foldl (auto_st ends) (c, l, j)).1, (xs.foldl (auto_st ends) (c, l, j)).2.1, (i + (xs.foldl (auto_st ends) (c, l, j)).2.2) % 256)
  | [], c, l, j => rfl
  | x :: xs, c, l, j => by
    rw [List.foldl_cons, List.foldl_cons]
    have h : auto_st ends (c, l, (i + j) % 256) x = ((auto_st ends (c, l, j) x).1, (auto_st ends (c, l, j) x).2.1, (i + (auto_st ends (c, l, j) x).2.2) % 256) := by
      unfold auto_st
      by_cases h5 : x = 5
      · rw [if_pos h5, if_pos h5]
      rw [if_neg h5, if_neg h5]
      by_cases h6 : x = 6
      · rw [if_pos h6, if_pos h6]
      rw [if_neg h6, if_neg h6]
      by_cases h7 : x = 7 ∨ x = 10
      · rw [if_pos h7, if_pos h7]
        have : ((i + j) % 256 + 1) % 256 = (i + (j + 1) % 256) % 256 := by omega
        simp only [this]
      · rw [if_neg h7, if_neg h7]
    rw [h]
    exact fold_shift ends i xs _ _ _
abbrev A4 := Int × Int × Int × Int
def rt (s c l : Int) : Bool := decide (0 ≤ s ∧ s < 10 ∧ 0 ≤ c ∧ c ≤ 5 ∧ ((4 ≤ s ∧ s ≤ 8 ∧ 1 ≤ l ∧ l ≤ 3) ∨ (¬ (4 ≤ s ∧ s ≤ 8) ∧ l = 0)))
def RA (a : A4) : Prop := rt a.1 a.2.1 a.2.2.1 = true ∧ 0 ≤ a.2.2.2 ∧ a.2.2.2 < 256
theorem rt_nat {s c l : Int} (h : rt s c l = true) : ∃ s' c' l' : Nat, s' < 10 ∧ c' < 6 ∧ l' < 4 ∧ s = (s' : Int) ∧ c = (c' : Int) ∧ l = (l' : Int) := by
  have := of_decide_eq_true h
  exact ⟨s.toNat, c.toNat, l.toNat, by omega, by omega, by omega, by omega, by omega, by omega⟩
theorem all240 {P : Nat → Nat → Nat → Prop} [∀ s c l, Decidable (P s c l)] (h : ((List.range 10).all fun s => (List.range 6).all fun c => (List.range 4).all fun l => decide (rt (s : Int) (c : Int) (l : Int) = true → P s c l)) = true) {s c l : Nat} (hs : s < 10) (hc : c < 6) (hl : l < 4) (hr : rt (s : Int) (c : Int) (l : Int) = true) : P s c l := by
  have h1 := List.all_eq_true.1 h s (List.mem_range.2 hs)
  have h2 := List.all_eq_true.1 h1 c (List.mem_range.2 hc)
  have h3 := List.all_eq_true.1 h2 l (List.mem_range.2 hl)
  exact of_decide_eq_true h3 hr
theorem right_eq (s c l i : Int) (k : Nat) (hk : 1 ≤ k) : auto_Right.f k s c l i = some (rt s c l) := by
  obtain ⟨k, rfl⟩ : ∃ m, k = m + 1 := ⟨k - 1, by omega⟩
  unfold auto_Right.f rt
  simp only [auto_Right.j0, timed_eq, Option.bind_some, if_true, decide_eq_true_eq]
  by_cases h1 : s < 0
  · rw [if_pos h1, decide_eq_false (by omega)]
  rw [if_neg h1]
  by_cases h2 : s ≥ 10
  · rw [if_pos h2, decide_eq_false (by omega)]
  rw [if_neg h2]
  by_cases h3 : c < 0
  · rw [if_pos h3, decide_eq_false (by omega)]
  rw [if_neg h3]
  by_cases h4 : c > 5
  · rw [if_pos h4, decide_eq_false (by omega)]
  rw [if_neg h4]
  by_cases h5 : 4 ≤ s ∧ s ≤ 8
  · rw [if_pos h5]
    by_cases h6 : l ≥ 1
    · rw [if_pos h6]
      congr 1
      rw [Bool.eq_iff_iff, decide_eq_true_iff, decide_eq_true_iff]
      omega
    · rw [if_neg h6, decide_eq_false (by omega)]
  · rw [if_neg h5]
    congr 1
    rw [Bool.eq_iff_iff, beq_iff_eq, decide_eq_true_iff]
    omega
theorem rright_eq (s c l i : Int) (k : Nat) (hk : 1 ≤ k) : portreeveref12_Right.f k s c l i = some (rt s c l) := by
  obtain ⟨k, rfl⟩ : ∃ m, k = m + 1 := ⟨k - 1, by omega⟩
  unfold portreeveref12_Right.f rt
  simp only [portreeveref12_Right.j0, rtimed_eq, Option.bind_some, if_true, decide_eq_true_eq]
  by_cases h1 : s < 0
  · rw [if_pos h1, decide_eq_false (by omega)]
  rw [if_neg h1]
  by_cases h2 : s > 9
  · rw [if_pos h2, decide_eq_false (by omega)]
  rw [if_neg h2]
  by_cases h3 : c < 0
  · rw [if_pos h3, decide_eq_false (by omega)]
  rw [if_neg h3]
  by_cases h4 : c > 5
  · rw [if_pos h4, decide_eq_false (by omega)]
  rw [if_neg h4]
  by_cases h5 : 4 ≤ s ∧ s ≤ 8
  · rw [if_pos h5]
    by_cases h6 : l ≥ 1
    · rw [if_pos h6]
      by_cases h7 : l ≤ 3
      · rw [if_pos h7, decide_eq_true (by omega)]
      · rw [if_neg h7, decide_eq_false (by omega)]
    · rw [if_neg h6, decide_eq_false (by omega)]
  · rw [if_neg h5]
    congr 1
    rw [Bool.eq_iff_iff, beq_iff_eq, decide_eq_true_iff]
    omega

/-! the number goes along -/
def sh6 (i : Int) (r : R6) : R6 := (r.1, r.2.1, r.2.2.1, (i + r.2.2.2.1) % 256, r.2.2.2.2.1, r.2.2.2.2.2)
theorem do_shift (s c l i j ev : Int) : auto_Do.f s c l ((i + j) % 256) ev = (auto_Do.f s c l j ev).map (sh6 i) := by
  obtain ⟨⟨xs, nx, is⟩, ht, _⟩ := next_some s ev
  rw [do_eq s c l _ ev xs nx is ht, do_eq s c l _ ev xs nx is ht]
  cases is
  · rfl
  · simp only [if_true, Option.map_some, fin, fold_shift, sh6]
theorem do_zero (s c l i ev : Int) (h0 : 0 ≤ i) (h1 : i < 256) : auto_Do.f s c l i ev = (auto_Do.f s c l 0 ev).map (sh6 i) := by
  rw [← do_shift, show (i + 0) % 256 = i by omega]
theorem do_some (s c l i ev : Int) : ∃ r, auto_Do.f s c l i ev = some r := by
  obtain ⟨⟨xs, nx, is⟩, ht, _⟩ := next_some s ev
  exact ⟨_, do_eq s c l _ ev xs nx is ht⟩
abbrev R5 := Int × Int × Int × Int × List Int
def sh5 (i : Int) (r : R5) : R5 := (r.1, r.2.1, r.2.2.1, (i + r.2.2.2.1) % 256, r.2.2.2.2)
theorem tick_shift (s c l i j : Int) : auto_Tick.f s c l ((i + j) % 256) = (auto_Tick.f s c l j).map (sh5 i) := by
  unfold auto_Tick.f
  by_cases h1 : l = 0
  · rw [if_pos h1, if_pos h1]
    rfl
  rw [if_neg h1, if_neg h1]
  by_cases h2 : wrap64 (l - 1) > 0
  · rw [if_pos h2, if_pos h2]
    rfl
  rw [if_neg h2, if_neg h2]
  by_cases h3 : c > 0
  · rw [if_pos h3, if_pos h3, do_shift]
    obtain ⟨r, hr⟩ := do_some s c (wrap64 (l - 1)) j 4
    rw [hr]
    rfl
  · rw [if_neg h3, if_neg h3, do_shift]
    obtain ⟨r, hr⟩ := do_some s c (wrap64 (l - 1)) j 5
    rw [hr]
    rfl
/-- A tick, as a function. -/
def tk (a : A4) : A4 × List Int := match auto_Tick.f a.1 a.2.1 a.2.2.1 a.2.2.2 with
  | some r => ((r.1, r.2.1, r.2.2.1, r.2.2.2.1), r.2.2.2.2)
  | none => (a, [])
def shA (i : Int) (a : A4) : A4 := (a.1, a.2.1, a.2.2.1, (i + a.2.2.2) % 256)
theorem tk_shift (i : Int) (a : A4) : tk (shA i a) = (shA i (tk a).1, (tk a).2) := by
  obtain ⟨s, c, l, j⟩ := a
  unfold tk shA
  simp only [tick_shift]
  cases auto_Tick.f s c l j <;> rfl
theorem shA_zero {a : A4} (h : RA a) : a = shA a.2.2.2 (a.1, a.2.1, a.2.2.1, 0) := by
  obtain ⟨s, c, l, i⟩ := a
  obtain ⟨_, h0, h1⟩ := h
  unfold shA
  simp only [Prod.mk.injEq, true_and]
  have h0' : 0 ≤ i := h0
  have h1' : i < 256 := h1
  omega
def tickOK (s c l : Int) : Bool := match auto_Tick.f s c l 0 with
  | some r => rt r.1 r.2.1 r.2.2.1 && decide (0 ≤ r.2.2.2.1) && decide (r.2.2.2.1 < 256) && decide (r.2.2.2.2.length ≤ 5)
  | none => false
theorem tick_in {s c l : Int} (h : rt s c l = true) : tickOK s c l = true := by
  obtain ⟨s', c', l', hs, hc, hl, rfl, rfl, rfl⟩ := rt_nat h
  exact all240 (P := fun s c l => tickOK (s : Int) (c : Int) (l : Int) = true) (by decide +kernel) hs hc hl h
theorem tick_ok {a : A4} (h : RA a) : auto_Tick.f a.1 a.2.1 a.2.2.1 a.2.2.2 = some ((tk a).1.1, (tk a).1.2.1, (tk a).1.2.2.1, (tk a).1.2.2.2, (tk a).2) ∧ RA (tk a).1 ∧ (tk a).2.length ≤ 5 := by
  obtain ⟨s, c, l, i⟩ := a
  obtain ⟨h1, h2, h3⟩ := h
  have h4 := tick_in h1
  have h5 := tick_shift s c l i 0
  have h2' : 0 ≤ i := h2
  have h3' : i < 256 := h3
  rw [show (i + 0) % 256 = i by omega] at h5
  unfold tickOK at h4
  unfold tk
  simp only [h5]
  cases h6 : auto_Tick.f s c l 0 with
  | none => simp only [h6] at h4; cases h4
  | some r =>
    simp only [h6, Bool.and_eq_true, decide_eq_true_eq] at h4
    simp only [Option.map_some, sh5]
    exact ⟨trivial, ⟨h4.1.1.1, by simp only; omega, by simp only; omega⟩, h4.2⟩
def itk : Nat → A4 → A4
  | 0, a => a
  | n + 1, a => itk n (tk a).1
theorem itk_RA : ∀ (n : Nat) {a : A4}, RA a → RA (itk n a)
  | 0, _, h => h
  | n + 1, _, h => itk_RA n (tick_ok h).2.1
theorem itk_add : ∀ (m n : Nat) (a : A4), itk (m + n) a = itk n (itk m a)
  | 0, n, a => by rw [Nat.zero_add]; rfl
  | m + 1, n, a => by
    rw [Nat.add_right_comm]
    exact itk_add m n (tk a).1
theorem itk_shift (i : Int) : ∀ (n : Nat) (a : A4), itk n (shA i a) = shA i (itk n a)
  | 0, _ => rfl
  | n + 1, a => by
    show itk n (tk (shA i a)).1 = shA i (itk n (tk a).1)
    rw [tk_shift]
    exact itk_shift i n _
theorem still {a : A4} (h : a.2.2.1 = 0) : tk a = (a, []) := by
  unfold tk auto_Tick.f
  rw [if_pos h]
theorem itk_still : ∀ (n : Nat) {a : A4}, a.2.2.1 = 0 → itk n a = a
  | 0, _, _ => rfl
  | n + 1, a, h => by
    show itk n (tk a).1 = a
    rw [still h]
    exact itk_still n h
theorem settled_in {s c l : Int} (h : rt s c l = true) : (itk 18 (s, c, l, 0)).2.2.1 = 0 := by
  obtain ⟨s', c', l', hs, hc, hl, rfl, rfl, rfl⟩ := rt_nat h
  exact all240 (P := fun s c l => (itk 18 ((s : Int), (c : Int), (l : Int), 0)).2.2.1 = 0) (by decide +kernel) hs hc hl h
theorem settled {a : A4} (h : RA a) : (itk 18 a).2.2.1 = 0 := by
  rw [shA_zero h, itk_shift]
  exact settled_in h.1
theorem itk_18 {a : A4} (h : RA a) (n : Nat) (hn : 18 ≤ n) : itk n a = itk 18 a := by
  obtain ⟨m, rfl⟩ : ∃ m, n = 18 + m := ⟨n - 18, by omega⟩
  rw [itk_add]
  exact itk_still m (settled h)

/-! many ticks -/
theorem quiet_loop (n : Nat) (hn : n ≤ 18) : ∀ (d k j : Nat) (a : A4), RA a → j + d = n → d < k → auto_Quiet.l0 k (n : Int) (j : Int) a.1 a.2.1 a.2.2.1 a.2.2.2 = some (itk d a) := by
  intro d
  induction d with
  | zero =>
    intro k j a h hj hk
    obtain ⟨k, rfl⟩ : ∃ m, k = m + 1 := ⟨k - 1, by omega⟩
    rw [auto_Quiet.l0, if_neg (by omega)]
    rfl
  | succ d ih =>
    intro k j a h hj hk
    obtain ⟨k, rfl⟩ : ∃ m, k = m + 1 := ⟨k - 1, by omega⟩
    obtain ⟨h1, h2, _⟩ := tick_ok h
    rw [auto_Quiet.l0, if_pos (by omega), h1, Option.bind_some, w64 (by omega) (by omega), show ((j : Int) + 1) = ((j + 1 : Nat) : Int) by omega]
    exact ih k (j + 1) (tk a).1 h2 (by omega) (by omega)
theorem quiet_eq {a : A4} (h : RA a) (t : Int) (k : Nat) (hk : 18 < k) : auto_Quiet.f k a.1 a.2.1 a.2.2.1 a.2.2.2 t = some (itk (min (max t 0) 18).toNat a) := by
  have hm : mn (mx t 0) 18 = (((min (max t 0) 18).toNat : Nat) : Int) := by unfold mn mx; omega
  unfold auto_Quiet.f auto_Bound.f
  rw [Option.bind_some, hm]
  exact quiet_loop _ (by omega) (min (max t 0) 18).toNat k 0 a h (by omega) (by omega)
theorem rquiet_loop (t : Int) : ∀ (d k j : Nat) (a : A4), RA a → ((j + d : Nat) : Int) = min t 100 → 2 * d + 62 < k → portreeveref12_Quiet.l0 k t (j : Int) a.1 a.2.1 a.2.2.1 a.2.2.2 = some (itk d a) := by
  intro d
  induction d with
  | zero =>
    intro k j a h hj hk
    obtain ⟨k, rfl⟩ : ∃ m, k = m + 2 := ⟨k - 2, by omega⟩
    rw [portreeveref12_Quiet.l0]
    by_cases hc : (j : Int) < t
    · rw [if_pos hc, decide_eq_false (by omega), portreeveref12_Quiet.j1, if_neg (by simp)]
      rfl
    · rw [if_neg hc, portreeveref12_Quiet.j1, if_neg (by simp)]
      rfl
  | succ d ih =>
    intro k j a h hj hk
    obtain ⟨k, rfl⟩ : ∃ m, k = m + 2 := ⟨k - 2, by omega⟩
    obtain ⟨h1, h2, _⟩ := tick_ok h
    rw [portreeveref12_Quiet.l0, if_pos (by omega), decide_eq_true (by omega), portreeveref12_Quiet.j1, if_pos rfl, rtick_eq _ _ _ _ _ (by omega), h1, Option.bind_some, w64 (by omega) (by omega), show ((j : Int) + 1) = ((j + 1 : Nat) : Int) by omega]
    exact ih k (j + 1) (tk a).1 h2 (by omega) (by omega)
theorem rquiet_eq {a : A4} (h : RA a) (t : Int) (ht : 0 ≤ t) (k : Nat) (hk : 300 < k) : portreeveref12_Quiet.f k a.1 a.2.1 a.2.2.1 a.2.2.2 t = some (itk (min t 100).toNat a) := by
  unfold portreeveref12_Quiet.f
  exact rquiet_loop t (min t 100).toNat k 0 a h (by omega) (by omega)
theorem shown_true (k : Nat) (hk : 60 ≤ k) : portreevelaw12_shown.f k = some true := at_rounds portreevelaw12_shown.mono hk (by decide +kernel)
end Go.Proofs.YtoenogjedmnnlaaDoor.Pure

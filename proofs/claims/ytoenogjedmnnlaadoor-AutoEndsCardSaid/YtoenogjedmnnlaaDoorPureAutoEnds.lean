/- Left alone an automaton is in a state that is not timed behind Bound() ticks; it sends no more than its counter says; then nothing changes any more. -/
import Derived.Test.YtoenogjedmnnlaaDoorSayAutoEnds
import Derived.Test.YtoenogjedmnnlaaDoorBase
import Derived.Test.YtoenogjedmnnlaaDoorBase2
namespace Go.Proofs.YtoenogjedmnnlaaDoor.Pure
set_option linter.unusedVariables false
open Go Go.RowKit Go.Proofs.YtoenogjedmnnlaaDoor.Q Go.Proofs.YtoenogjedmnnlaaDoorK Go.Proofs.YtoenogjedmnnlaaDoorW.PrintWords Go.Proofs.YtoenogjedmnnlaaDoorW.PrintLast Go.Proofs.YtoenogjedmnnlaaDoorW.PrintMore

def es : Nat → Int → Int → A4 → Option (Int × A4)
  | 0, sent, _, b => some (sent, b)
  | d + 1, sent, since, b => if (tk b).2.length = 0 then es d sent (since + 1) (tk b).1 else if since + 1 = 3 then es d (if ((tk b).2.contains 7 || (tk b).2.contains 10) = true then sent + 1 else sent) 0 (tk b).1 else none
theorem es_shift (i : Int) : ∀ (d : Nat) (sent since : Int) (b : A4), es d sent since (shA i b) = (es d sent since b).map (fun r => (r.1, shA i r.2))
  | 0, _, _, _ => rfl
  | d + 1, sent, since, b => by
    rw [es, es, tk_shift]
    by_cases h : (tk b).2.length = 0
    · rw [if_pos h, if_pos h]
      exact es_shift i d _ _ _
    · rw [if_neg h, if_neg h]
      by_cases h3 : since + 1 = 3
      · rw [if_pos h3, if_pos h3]
        exact es_shift i d _ _ _
      · rw [if_neg h3, if_neg h3]
        rfl
def timed (s : Int) : Bool := decide (4 ≤ s ∧ s ≤ 8)
def endsOK (s c l : Int) : Bool := match es 18 0 (3 - l) (s, c, l, 0) with
  | some r => decide (r.2 = itk 18 (s, c, l, 0)) && !timed r.2.1 && (if timed s = true then decide (r.1 = c) && (decide (r.2.1 = 2) || decide (r.2.1 = 3)) else decide (r.2 = (s, c, l, 0)) && decide (r.1 = 0))
  | none => false
theorem ends_in {s c l : Int} (h : rt s c l = true) : endsOK s c l = true := by
  obtain ⟨s', c', l', hs, hc, hl, rfl, rfl, rfl⟩ := rt_nat h
  exact all240 (P := fun s c l => endsOK (s : Int) (c : Int) (l : Int) = true) (by decide +kernel) hs hc hl h
theorem ends_loop (x1 : Int) (a : A4) (S : Int) (B : A4) : ∀ (d m n : Nat) (sent since : Int) (b : A4), RA b → n + d = 18 → 60 ≤ m → 0 ≤ sent → sent ≤ n → 0 ≤ since → since ≤ 3 + n → es d sent since b = some (S, B) →
    ∃ N, portreevelaw12_AutoEnds.l0 (3 * d + m) x1 true sent since (n : Int) a.1 a.2.1 a.2.2.1 a.2.2.2 b.1 b.2.1 b.2.2.1 b.2.2.2 = portreevelaw12_AutoEnds.l0 m x1 true S N 18 a.1 a.2.1 a.2.2.1 a.2.2.2 B.1 B.2.1 B.2.2.1 B.2.2.2 := by
  intro d
  induction d with
  | zero =>
    intro m n sent since b hb hn hm h1 h2 h3 h4 he
    simp only [es, Option.some.injEq, Prod.mk.injEq] at he
    obtain ⟨rfl, rfl⟩ := he
    obtain rfl : n = 18 := by omega
    exact ⟨since, by rw [Nat.mul_zero, Nat.zero_add]; rfl⟩
  | succ d ih =>
    intro m n sent since b hb hn hm h1 h2 h3 h4 he
    obtain ⟨t1, t2, t3⟩ := tick_ok hb
    have hw : wrap64 ((n : Int) + 1) = ((n + 1 : Nat) : Int) := by rw [w64 (by omega) (by omega)]; omega
    have step : ∀ (sn sc : Int), 0 ≤ sn → sn ≤ n → 0 ≤ sc → sc ≤ 3 + (n + 1 : Nat) → es d (if ((tk b).2.contains 7 || (tk b).2.contains 10) = true then sn + 1 else sn) sc (tk b).1 = some (S, B) →
        ∃ N, portreevelaw12_AutoEnds.j2 (3 * d + m + 2) x1 true sn sc (n : Int) (tk b).2 a.1 a.2.1 a.2.2.1 a.2.2.2 (tk b).1.1 (tk b).1.2.1 (tk b).1.2.2.1 (tk b).1.2.2.2 = portreevelaw12_AutoEnds.l0 m x1 true S N 18 a.1 a.2.1 a.2.2.1 a.2.2.2 B.1 B.2.1 B.2.2.1 B.2.2.2 := by
      intro sn sc g1 g2 g3 g4 ge
      rw [portreevelaw12_AutoEnds.j2, has_eq _ _ _ (by omega) (by omega), Option.bind_some]
      cases h7 : (tk b).2.contains 7 with
      | true =>
        rw [h7, Bool.true_or, if_pos rfl] at ge
        rw [if_pos rfl, portreevelaw12_AutoEnds.j3, if_pos rfl, hw, w64 (by omega) (by omega)]
        exact ih m (n + 1) (sn + 1) sc (tk b).1 t2 (by omega) hm (by omega) (by omega) g3 g4 ge
      | false =>
        rw [if_neg (by simp), has_eq _ _ _ (by omega) (by omega), Option.bind_some]
        cases h10 : (tk b).2.contains 10 with
        | true =>
          rw [h7, h10, Bool.false_or, if_pos rfl] at ge
          rw [portreevelaw12_AutoEnds.j3, if_pos rfl, hw, w64 (by omega) (by omega)]
          exact ih m (n + 1) (sn + 1) sc (tk b).1 t2 (by omega) hm (by omega) (by omega) g3 g4 ge
        | false =>
          rw [h7, h10, Bool.false_or, if_neg (by simp)] at ge
          rw [portreevelaw12_AutoEnds.j3, if_neg (by simp), hw]
          exact ih m (n + 1) sn sc (tk b).1 t2 (by omega) hm (by omega) (by omega) g3 g4 ge
    rw [show 3 * (d + 1) + m = (3 * d + m + 2) + 1 by omega, portreevelaw12_AutoEnds.l0]
    unfold auto_Bound.f
    rw [Option.bind_some, if_pos (by omega), t1, Option.bind_some, w64 (a := since + 1) (by omega) (by omega)]
    simp only []
    rw [es] at he
    by_cases hL : (tk b).2.length = 0
    · rw [if_pos hL] at he
      have hnil : (tk b).2 = [] := List.eq_nil_of_length_eq_zero hL
      rw [if_neg (by omega)]
      exact step sent (since + 1) h1 h2 (by omega) (by omega) (by rw [hnil]; exact he)
    · rw [if_neg hL] at he
      rw [if_pos (by omega)]
      by_cases h33 : since + 1 = 3
      · rw [if_pos h33] at he
        rw [if_pos h33]
        exact step sent 0 h1 h2 (by omega) (by omega) he
      · rw [if_neg h33] at he
        cases he
theorem AutoEnds : portreevelaw12_AutoEnds.Pure := by
  intro s c l i more hs hc hl hi hmore
  refine ⟨1055, ?_⟩
  have hi' := wf_u8.1 hi
  have hi1 : i < 256 := by have := hi'.2; omega
  unfold portreevelaw12_AutoEnds.f
  rw [shown_true _ (by omega), Option.bind_some, rright_eq _ _ _ _ _ (by omega), Option.bind_some]
  have hj : portreevelaw12_AutoEnds.j0 1055 more true true s c l i = some true := by rw [portreevelaw12_AutoEnds.j0, if_pos rfl]
  cases hr : rt s c l with
  | false => rw [if_neg (by simp), hj]
  | true =>
    rw [if_pos rfl]
    by_cases h1 : more < 0
    · rw [if_pos h1, hj]
    rw [if_neg h1]
    by_cases h2 : more > 1000
    · rw [decide_eq_true h2, hj]
    have hrt := of_decide_eq_true hr
    have hA : RA (s, c, l, i) := ⟨hr, hi'.1, hi1⟩
    have hok := ends_in hr
    unfold endsOK at hok
    have hsh := es_shift i 18 0 (3 - l) (s, c, l, 0)
    have hsi : shA i (s, c, l, 0) = (s, c, l, i) := (shA_zero hA).symm
    rw [hsi] at hsh
    cases he : es 18 0 (3 - l) (s, c, l, 0) with
    | none => simp only [he] at hok; cases hok
    | some r =>
      obtain ⟨S, B0⟩ := r
      simp only [he, Bool.and_eq_true, decide_eq_true_eq] at hok
      obtain ⟨⟨hB, hnt⟩, hend⟩ := hok
      rw [he, Option.map_some] at hsh
      have hB18 : shA i B0 = itk 18 (s, c, l, i) := by rw [hB, ← itk_shift, hsi]
      obtain ⟨N, hN⟩ := ends_loop more (s, c, l, i) S (shA i B0) 18 1000 0 0 (3 - l) (s, c, l, i) hA (by omega) (by omega) (by omega) (by omega) (by omega) (by omega) hsh
      rw [decide_eq_false h2, portreevelaw12_AutoEnds.j0, if_neg (by simp), w64 (by omega) (by omega)]
      have hN' : portreevelaw12_AutoEnds.l0 1054 more true 0 (3 - l) 0 s c l i s c l i = portreevelaw12_AutoEnds.l0 1000 more true S N 18 s c l i (shA i B0).1 (shA i B0).2.1 (shA i B0).2.2.1 (shA i B0).2.2.2 := hN
      rw [hN']
      have hnt' : timed B0.1 = false := by simpa using hnt
      have q1 := quiet_eq hA 18 998 (by omega)
      have q2 := quiet_eq hA (18 + more) 998 (by omega)
      rw [show (min (max (18 : Int) 0) 18).toNat = 18 from rfl] at q1
      rw [show (min (max (18 + more) 0) 18).toNat = 18 by omega] at q2
      rw [← hB18] at q1 q2
      simp only at q1 q2
      have hj4 : (timed s = true ∨ (B0 = (s, c, l, 0) ∧ S = 0)) → portreevelaw12_AutoEnds.j4 999 more true S false s c l i (shA i B0).1 (shA i B0).2.1 (shA i B0).2.2.1 (shA i B0).2.2.2 = some true := by
        intro hor
        rw [portreevelaw12_AutoEnds.j4, if_neg (by simp), if_pos rfl, rtimed_eq, Option.bind_some]
        rw [show decide (4 ≤ (shA i B0).1 ∧ (shA i B0).1 ≤ 8) = false from hnt', if_neg (by simp)]
        unfold auto_Bound.f
        rw [Option.bind_some, q1, Option.bind_some, if_pos (by simp), Option.bind_some, w64 (by omega) (by omega), q2, Option.bind_some, if_pos (by simp), rtimed_eq, Option.bind_some]
        rcases hor with ht | ⟨hb, hS⟩
        · rw [show decide (4 ≤ s ∧ s ≤ 8) = true from ht, if_pos rfl]
        · by_cases ht : decide (4 ≤ s ∧ s ≤ 8) = true
          · rw [if_pos ht]
          · rw [if_neg ht, hb, hsi, if_pos (by simp), hS]
            rfl
      rw [portreevelaw12_AutoEnds.l0]
      unfold auto_Bound.f
      rw [Option.bind_some, if_neg (by omega), rtimed_eq, Option.bind_some]
      cases ht : timed s with
      | true =>
        rw [ht, if_pos rfl] at hend
        simp only [Bool.and_eq_true, Bool.or_eq_true, decide_eq_true_eq] at hend
        rw [show decide (4 ≤ s ∧ s ≤ 8) = true from ht, if_pos rfl, if_pos hend.1]
        rcases hend.2 with h | h
        · rw [if_pos (show (shA i B0).1 = 2 from h)]
          exact hj4 (Or.inl ht)
        · rw [if_neg (show ¬ (shA i B0).1 = 2 by rw [show (shA i B0).1 = 3 from h]; omega), show ((shA i B0).1 != 3) = false by rw [show (shA i B0).1 = 3 from h]; rfl]
          exact hj4 (Or.inl ht)
      | false =>
        rw [ht, if_neg (by simp)] at hend
        simp only [Bool.and_eq_true, decide_eq_true_eq] at hend
        rw [show decide (4 ≤ s ∧ s ≤ 8) = false from ht, if_neg (by simp)]
        exact hj4 (Or.inr hend)
end Go.Proofs.YtoenogjedmnnlaaDoor.Pure

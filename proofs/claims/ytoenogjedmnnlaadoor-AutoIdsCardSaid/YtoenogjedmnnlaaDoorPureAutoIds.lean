/- Each request that is sent has the next number; nothing else changes it; the counter goes down by one with it, from where it began. -/
import Derived.Test.YtoenogjedmnnlaaDoorSayAutoIds
import Derived.Test.YtoenogjedmnnlaaDoorBase
import Derived.Test.YtoenogjedmnnlaaDoorBase2
namespace Go.Proofs.YtoenogjedmnnlaaDoor.Pure
set_option linter.unusedVariables false
open Go Go.RowKit Go.Proofs.YtoenogjedmnnlaaDoor.Q Go.Proofs.YtoenogjedmnnlaaDoorK Go.Proofs.YtoenogjedmnnlaaDoorW.PrintWords Go.Proofs.YtoenogjedmnnlaaDoorW.PrintLast Go.Proofs.YtoenogjedmnnlaaDoorW.PrintMore

set_option linter.unusedSimpArgs false
def frm (L : List Int) (c : Int) : Int := if L.contains 6 = true then 0 else if L.contains 5 = true then (if L.contains 10 = true then 2 else 5) else c
def snd (L : List Int) : Bool := L.contains 7 || L.contains 10
def idsOK (c : Int) (r : R6) : Bool := decide (r.2.2.2.2.1.length ≤ 5) && if r.2.2.2.2.2 = 0 then (if snd r.2.2.2.2.1 = true then decide (r.2.2.2.1 = 1) && decide (r.2.2.1 = 3) && decide (r.2.1 = max (frm r.2.2.2.2.1 c - 1) 0) else decide (r.2.2.2.1 = 0) && decide (r.2.1 = frm r.2.2.2.2.1 c)) else decide (r.2.2.2.1 = 0) && decide (r.2.2.2.2.1 = []) && decide (r.2.1 = c)
theorem ids_in : ∀ e : Nat, e < 16 → ((List.range 10).all fun s => (List.range 6).all fun c => (List.range 4).all fun l => decide (rt (s : Int) (c : Int) (l : Int) = true → (auto_Do.f (s : Int) (c : Int) (l : Int) 0 (e : Int)).all (fun r => idsOK (c : Int) r && (decide (r.2.2.2.2.2 = 0) || decide (r.1 = (s : Int) ∧ r.2.2.1 = (l : Int)))) = true)) = true := by decide +kernel
theorem ids_j (L : List Int) (hL : L.length ≤ 5) (x9 : Bool) (s c l i s' c' l' i' : Int) (hc : 0 ≤ c ∧ c ≤ 5) (h : if x9 = true then i' = (i + 1) % 256 ∧ l' = 3 ∧ c' = max (frm L c - 1) 0 else i' = i ∧ c' = frm L c) : portreevelaw12_AutoIds.j0 5000 true L x9 s c l i s' c' l' i' = some true := by
  have key : portreevelaw12_AutoIds.j2 4998 true x9 (frm L c) s c l i s' c' l' i' = some true := by
    have hf : 0 ≤ frm L c ∧ frm L c ≤ 5 := by
      unfold frm
      split
      · omega
      split
      · split <;> omega
      · exact hc
    rw [portreevelaw12_AutoIds.j2]
    cases x9 with
    | true =>
      rw [if_pos rfl] at h
      rw [if_pos rfl, if_pos rfl, if_pos h.1, if_pos h.2.1, w64 (by omega) (by omega), h.2.2]
      have : mx (frm L c - 1) 0 = max (frm L c - 1) 0 := by unfold mx; omega
      rw [this]
      simp
    | false =>
      rw [if_neg (by simp)] at h
      rw [if_neg (by simp), if_pos rfl, if_pos h.1, h.2]
      simp
  rw [portreevelaw12_AutoIds.j0, has_eq _ _ _ (by omega) (by omega), Option.bind_some]
  cases h5 : L.contains 5 with
  | true =>
    rw [if_pos rfl, has_eq _ _ _ (by omega) (by omega), Option.bind_some]
    cases h10 : L.contains 10 with
    | true =>
      rw [if_pos rfl, portreevelaw12_AutoIds.j1, has_eq _ _ _ (by omega) (by omega), Option.bind_some]
      cases h6 : L.contains 6 with
      | true => rw [if_pos rfl]; rw [show frm L c = 0 by simp only [frm, h5, h6, h10, if_true, Bool.false_eq_true, if_false]] at key; exact key
      | false => rw [if_neg (by simp)]; rw [show frm L c = 2 by simp only [frm, h5, h6, h10, if_true, Bool.false_eq_true, if_false]] at key; exact key
    | false =>
      rw [if_neg (by simp), portreevelaw12_AutoIds.j1, has_eq _ _ _ (by omega) (by omega), Option.bind_some]
      cases h6 : L.contains 6 with
      | true => rw [if_pos rfl]; rw [show frm L c = 0 by simp only [frm, h5, h6, h10, if_true, Bool.false_eq_true, if_false]] at key; exact key
      | false => rw [if_neg (by simp)]; rw [show frm L c = 5 by simp only [frm, h5, h6, h10, if_true, Bool.false_eq_true, if_false]] at key; exact key
  | false =>
    rw [if_neg (by simp), portreevelaw12_AutoIds.j1, has_eq _ _ _ (by omega) (by omega), Option.bind_some]
    cases h6 : L.contains 6 with
    | true => rw [if_pos rfl]; rw [show frm L c = 0 by simp only [frm, h5, h6, if_true, Bool.false_eq_true, if_false]] at key; exact key
    | false => rw [if_neg (by simp)]; rw [show frm L c = c by simp only [frm, h5, h6, if_true, Bool.false_eq_true, if_false]] at key; exact key
theorem AutoIds : portreevelaw12_AutoIds.Pure := by
  intro s c l i ev hs hc hl hi hev
  refine ⟨5000, ?_⟩
  have hi' := wf_u8.1 hi
  have hi1 : i < 256 := by have := hi'.2; omega
  unfold portreevelaw12_AutoIds.f
  rw [shown_true _ (by omega), Option.bind_some, rright_eq _ _ _ _ _ (by omega), Option.bind_some]
  cases hr : rt s c l with
  | false => rw [if_neg (by simp)]
  | true =>
    rw [if_pos rfl]
    have hc5 : 0 ≤ c ∧ c ≤ 5 := by have := of_decide_eq_true hr; omega
    by_cases hin : 0 ≤ ev ∧ ev < 16
    · obtain ⟨e, rfl⟩ : ∃ e : Nat, ev = (e : Int) := ⟨ev.toNat, by omega⟩
      rw [do_zero s c l i _ hi'.1 hi1]
      obtain ⟨r, hd⟩ := do_some s c l 0 (e : Int)
      have hok : idsOK c r = true ∧ (r.2.2.2.2.2 = 0 ∨ r.1 = s ∧ r.2.2.1 = l) := by
        obtain ⟨s', c', l', ks, kc, kl, rfl, rfl, rfl⟩ := rt_nat hr
        have h4 := all240 (P := fun s c l => (auto_Do.f (s : Int) (c : Int) (l : Int) 0 (e : Int)).all (fun r => idsOK (c : Int) r && (decide (r.2.2.2.2.2 = 0) || decide (r.1 = (s : Int) ∧ r.2.2.1 = (l : Int)))) = true) (ids_in e (by omega)) ks kc kl hr
        rw [hd] at h4
        simpa using h4
      obtain ⟨hok, hsame⟩ := hok
      unfold idsOK at hok
      rw [Bool.and_eq_true, decide_eq_true_eq] at hok
      obtain ⟨hlen, hok⟩ := hok
      rw [hd, Option.map_some, Option.bind_some]
      simp only [sh6]
      by_cases h0 : r.2.2.2.2.2 = 0
      · rw [if_pos h0] at hok ⊢
        rw [has_eq _ _ _ (by omega) (by omega), Option.bind_some]
        cases h7 : r.2.2.2.2.1.contains 7 with
        | true =>
          have hs : snd r.2.2.2.2.1 = true := by unfold snd; rw [h7]; rfl
          rw [if_pos hs] at hok
          simp only [Bool.and_eq_true, decide_eq_true_eq] at hok
          rw [if_pos rfl]
          exact ids_j _ hlen true s c l i _ _ _ _ hc5 (by rw [if_pos rfl]; exact ⟨by rw [hok.1.1], hok.1.2, hok.2⟩)
        | false =>
          rw [if_neg (by simp), has_eq _ _ _ (by omega) (by omega), Option.bind_some]
          cases h10 : r.2.2.2.2.1.contains 10 with
          | true =>
            have hs : snd r.2.2.2.2.1 = true := by unfold snd; rw [h10]; simp
            rw [if_pos hs] at hok
            simp only [Bool.and_eq_true, decide_eq_true_eq] at hok
            exact ids_j _ hlen true s c l i _ _ _ _ hc5 (by rw [if_pos rfl]; exact ⟨by rw [hok.1.1], hok.1.2, hok.2⟩)
          | false =>
            have hs : snd r.2.2.2.2.1 = false := by unfold snd; rw [h7, h10]; rfl
            rw [hs, if_neg (by simp)] at hok
            simp only [Bool.and_eq_true, decide_eq_true_eq] at hok
            exact ids_j _ hlen false s c l i _ _ _ _ hc5 (by rw [if_neg (by simp)]; exact ⟨by rw [hok.1]; omega, hok.2⟩)
      · rw [if_neg h0] at hok ⊢
        simp only [Bool.and_eq_true, decide_eq_true_eq] at hok
        have h3 : (i + r.2.2.2.1) % 256 = i := by rw [hok.1.1]; omega
        have h4 : r.1 = s ∧ r.2.2.1 = l := hsame.resolve_left h0
        have hb : (r.1 == s && (r.2.1 == c && (r.2.2.1 == l && ((i + r.2.2.2.1) % 256 == i)))) = true := by rw [h3, h4.1, h4.2, hok.2]; simp
        rw [if_pos trivial]
        exact (if_pos hb).trans (by rw [hok.1.2]; rfl)
    · rw [do_eq s c l i ev [] s false (next_out (by omega)), Option.bind_some]
      simp
end Go.Proofs.YtoenogjedmnnlaaDoor.Pure

/- What is escaped is as long as the bytes, and one more for each that is escaped; with more bits more are, and with all bits it has nothing below 32. -/
import Derived.Test.YtdmhamnnadegnaaSayStuffLong
import Derived.Test.YtdmhamnnadegnaaBase
import Derived.Test.YtdmhamnnadegnaaBase2
import Derived.Test.YtdmhamnnadegnaaShown
import Derived.Test.YtdmhamnnadegnaaBase3
namespace Go.Proofs.Ytdmhamnnadegnaa.Pure
set_option linter.unusedVariables false
open Go Go.RowKit Go.Proofs.Ytdmhamnnadegnaa.Q Go.Proofs.YtdmhamnnadegnaaK Go.Proofs.YtdmhamnnadegnaaW.PrintWords Go.Proofs.YtdmhamnnadegnaaW.PrintLast Go.Proofs.YtdmhamnnadegnaaW.PrintMore

theorem long_l1 (l e : List Int) (a b n : Int) (he : e.length ≤ 1000000) (hc : ∀ c ∈ e, 32 ≤ c) (P : Option Bool → Prop) : ∀ (d k i : Nat), i + d = e.length → d + 1 ≤ k → (∀ k', k' + d + 1 = k → P (portreevelaw07_StuffLong.l1 (k' + 1) l a b true n e (e.length : Int))) → P (portreevelaw07_StuffLong.l1 k l a b true n e (i : Int))
  | 0, k, i, hd, hk, h => by
    obtain ⟨k, rfl⟩ : ∃ m, k = m + 1 := ⟨k - 1, by omega⟩
    have : i = e.length := by omega
    subst this
    exact h k rfl
  | d + 1, k, i, hd, hk, h => by
    obtain ⟨k, rfl⟩ : ∃ m, k = m + 1 := ⟨k - 1, by omega⟩
    have hi : i < e.length := by omega
    have hx := hc e[i] (List.getElem_mem hi)
    rw [portreevelaw07_StuffLong.l1, if_pos (by omega), if_pos (by omega), rd_lt e i hi, if_neg (by omega), w64 (by omega) (by omega), show ((i : Int) + 1) = ((i + 1 : Nat) : Int) by omega]
    exact long_l1 l e a b n he hc P d k (i + 1) (by omega) (by omega) (fun k' hk' => h k' (by omega))

theorem long_l0 (l : List Int) (hB : B l) (a b : Int) (ha : 0 ≤ a ∧ a ≤ 4294967295) (hl : l.length ≤ 1000) (P : Option Bool → Prop) : ∀ (d k i : Nat) (n : Int), i + d = l.length → 0 ≤ n → n ≤ i → 2 * d + 1 ≤ k → (∀ k', k' + 2 * d + 1 = k ∨ k' + d + 1 ≤ k ∧ k ≤ k' + 2 * d + 1 → P (portreevelaw07_StuffLong.l0 (k' + 1) l a b true (n + ((E a (l.drop i)).length - d)) (l.length : Int))) → P (portreevelaw07_StuffLong.l0 k l a b true n (i : Int))
  | 0, k, i, n, hd, h0, hn, hk, h => by
    obtain ⟨k, rfl⟩ : ∃ m, k = m + 1 := ⟨k - 1, by omega⟩
    have : i = l.length := by omega
    subst this
    have := h k (by omega)
    rw [List.drop_eq_nil_of_le (by omega)] at this
    simpa [E] using this
  | d + 1, k, i, n, hd, h0, hn, hk, h => by
    obtain ⟨k, rfl⟩ : ∃ m, k = m + 2 := ⟨k - 2, by omega⟩
    have hi : i < l.length := by omega
    have hx := rdB hB i hi
    have hs : portreevelaw07_StuffLong.l0 (k + 2) l a b true n (i : Int) = portreevelaw07_StuffLong.j1 (k + 1) l a b true n (i : Int) (esc a l[i]) := by
      rw [portreevelaw07_StuffLong.l0, if_pos (by omega), if_pos (by omega), rd_lt l i hi]
      unfold esc
      by_cases h1 : l[i] = 126
      · rw [if_pos h1]; simp [h1]
      by_cases h2 : l[i] = 125
      · rw [if_neg h1, if_pos h2]; simp [h2]
      by_cases h3 : l[i] < 32
      · rw [if_neg h1, if_neg h2, if_pos h3, if_pos hx.1, tm ha hx.1 h3, beq_eq_false_iff_ne.2 h1, beq_eq_false_iff_ne.2 h2, decide_eq_true h3]; rfl
      · rw [if_neg h1, if_neg h2, if_neg h3, beq_eq_false_iff_ne.2 h1, beq_eq_false_iff_ne.2 h2, decide_eq_false h3]; rfl
    rw [List.drop_eq_getElem_cons hi, E_cons] at h
    rw [hs, portreevelaw07_StuffLong.j1]
    by_cases he : esc a l[i] = true
    · rw [if_pos he] at h ⊢
      rw [w64 (by omega) (by omega), w64 (by omega) (by omega), show ((i : Int) + 1) = ((i + 1 : Nat) : Int) by omega]
      refine long_l0 l hB a b ha hl P d k (i + 1) (n + 1) (by omega) (by omega) (by omega) (by omega) (fun k' hk' => ?_)
      have := h k' (by omega)
      rw [List.length_append] at this
      rw [show n + 1 + (((E a (l.drop (i + 1))).length : Int) - (d : Int)) = n + ((([125, x32 l[i]].length + (E a (l.drop (i + 1))).length : Nat) : Int) - ((d + 1 : Nat) : Int)) by simp only [List.length_cons, List.length_nil]; omega]
      exact this
    · rw [if_neg he] at h ⊢
      rw [w64 (by omega) (by omega), show ((i : Int) + 1) = ((i + 1 : Nat) : Int) by omega]
      refine long_l0 l hB a b ha hl P d k (i + 1) n (by omega) (by omega) (by omega) (by omega) (fun k' hk' => ?_)
      have := h k' (by omega)
      rw [List.length_append] at this
      rw [show n + (((E a (l.drop (i + 1))).length : Int) - (d : Int)) = n + ((([l[i]].length + (E a (l.drop (i + 1))).length : Nat) : Int) - ((d + 1 : Nat) : Int)) by simp only [List.length_cons, List.length_nil]; omega]
      exact this

theorem StuffLong : portreevelaw07_StuffLong.Pure := by
  intro l a b hl ha hb
  refine ⟨40000, ?_⟩
  have hB := B_of hl.2
  rw [wf_u32] at ha hb
  unfold portreevelaw07_StuffLong.f
  rw [shown_true _ (by omega), Option.bind_some]
  by_cases h : (l.length : Int) > 1000
  · rw [if_pos h]
  rw [if_neg h]
  have hE := E_length a l
  have hE2 := E_length 4294967295 l
  have ho := or_range ha hb
  have hm := E_mono ho.2 l
  refine long_l0 l hB a b ha (by omega) (fun o => o = some true) l.length 40000 0 0 (by omega) (by omega) (by omega) (by omega) (fun k hk => ?_)
  rw [List.drop_zero, portreevelaw07_StuffLong.l0, if_neg (by omega), escape_own _ 4294967295 (by omega) l hB (by omega) (by omega), Option.bind_some]
  refine long_l1 l _ a b _ (by omega) (fun c hc => E_high hB c hc) (fun o => o = some true) (E 4294967295 l).length k 0 (by omega) (by omega) (fun k hk => ?_)
  rw [portreevelaw07_StuffLong.l1, if_neg (by omega), if_pos rfl, escape_own _ a ha l hB (by omega) (by omega), Option.bind_some, w64 (by omega) (by omega), if_pos (by omega), escape_own _ _ ho.1 l hB (by omega) (by omega), Option.bind_some, decide_eq_true (by omega)]
end Go.Proofs.Ytdmhamnnadegnaa.Pure

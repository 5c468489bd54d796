/- Frames that are sent one behind the other come, in order, with one flag or two between. -/
import Derived.Test.YtdmhamnnadegnaaSayStuffRow
import Derived.Test.YtdmhamnnadegnaaBase
import Derived.Test.YtdmhamnnadegnaaBase2
import Derived.Test.YtdmhamnnadegnaaShown
import Derived.Test.YtdmhamnnadegnaaBase3
namespace Go.Proofs.Ytdmhamnnadegnaa.Pure
set_option linter.unusedVariables false
open Go Go.RowKit Go.Proofs.Ytdmhamnnadegnaa.Q Go.Proofs.YtdmhamnnadegnaaK Go.Proofs.YtdmhamnnadegnaaW.PrintWords Go.Proofs.YtdmhamnnadegnaaW.PrintLast Go.Proofs.YtdmhamnnadegnaaW.PrintMore

theorem srow_l0 (rs : List (List Int)) (a : Int) (ha : 0 ≤ a ∧ a ≤ 4294967295) (hr : ∀ l ∈ rs, B l) (hl : rs.length ≤ 20) : ∀ (d k i : Nat), i + d = rs.length → (∀ l ∈ rs.take i, 1 ≤ l.length ∧ l.length ≤ 700) → 2 * d + 35000 ≤ k → portreevelaw07_StuffRow.l0 k rs a true (Se a (rs.take i)) (On a (rs.take i)) (i : Int) = some true
  | 0, k, i, hd, hq, hk => by
    obtain ⟨k, rfl⟩ : ∃ m, k = m + 1 := ⟨k - 1, by omega⟩
    have hz : rs.take i = rs := List.take_of_length_le (by omega)
    rw [hz] at hq ⊢
    have hn := SeOn_length a rs hq
    have hb := Se_B a rs hr
    have hb2 : B (On a rs ++ [126]) := by
      intro c hc
      rw [List.mem_append, List.mem_singleton] at hc
      rcases hc with hc | rfl
      · exact hb.2 c hc
      · omega
    have h1 := Sg_Se a rs (fun l h => ⟨hr l h, hq l h⟩)
    obtain ⟨t, ht, h2⟩ := Sg_On a rs (fun l h => ⟨hr l h, hq l h⟩)
    have hf : ∀ x ∈ rs, x.length ≤ 1508 := fun x hx => by have := hq x hx; omega
    rw [portreevelaw07_StuffRow.l0, if_neg (by omega), if_pos (by omega), if_pos rfl, all_own _ _ hb.1 (by omega) (by omega), Option.bind_some, h1, frames _ _ _ 1508 (by omega) (by omega) hf (by omega), Option.bind_some, if_pos (by simp), all_own _ _ hb2 (by rw [List.length_append, List.length_singleton]; omega) (by rw [List.length_append, List.length_singleton]; omega), Option.bind_some, ht, Sg_flag, h2, frames _ _ _ 1508 (by omega) (by omega) hf (by omega), Option.bind_some]
    simp
  | d + 1, k, i, hd, hq, hk => by
    obtain ⟨k, rfl⟩ : ∃ m, k = m + 2 := ⟨k - 2, by omega⟩
    have hi : i < rs.length := by omega
    have hB := hr rs[i] (List.getElem_mem hi)
    have hn := SeOn_length a _ hq
    rw [List.length_take] at hn
    rw [portreevelaw07_StuffRow.l0, if_pos (by omega), if_pos (by omega), rd2_lt rs i hi]
    by_cases h1 : ((rs[i].length : Nat) : Int) < 1
    · rw [if_pos h1, portreevelaw07_StuffRow.j1, if_pos rfl]
    rw [if_neg h1]
    by_cases h2 : ((rs[i].length : Nat) : Int) > 700
    · rw [decide_eq_true h2, portreevelaw07_StuffRow.j1, if_pos rfl]
    have hE := E_length a rs[i]
    have hS := send_length a rs[i]
    have ht : rs.take (i + 1) = rs.take i ++ [rs[i]] := by rw [List.take_succ_eq_append_getElem hi]
    have ih := srow_l0 rs a ha hr hl d k (i + 1) (by omega) (by
      intro l h
      rw [ht, List.mem_append, List.mem_singleton] at h
      rcases h with h | rfl
      · exact hq l h
      · omega) (by omega)
    rw [ht, Se_snoc, On_snoc] at ih
    rw [decide_eq_false h2, portreevelaw07_StuffRow.j1, if_neg (by simp), if_pos (by omega), if_pos (by omega), rd2_lt rs i hi, send_own _ a ha _ hB (by omega) (by omega), Option.bind_some, if_pos (by omega), if_pos (by omega), Option.bind_some, escape_own _ a ha _ hB (by omega) (by omega), Option.bind_some, if_pos (by rw [List.length_append, List.length_singleton]; omega), w64 (by omega) (by omega), show ((i : Int) + 1) = ((i + 1 : Nat) : Int) by omega]
    exact ih

theorem StuffRow : portreevelaw07_StuffRow.Pure := by
  intro rs a hl ha
  refine ⟨40000, ?_⟩
  have hB : ∀ l ∈ rs, B l := fun l h => B_of (hl.2 l h).2
  rw [wf_u32] at ha
  unfold portreevelaw07_StuffRow.f
  rw [shown_true _ (by omega), Option.bind_some]
  by_cases h : (rs.length : Int) > 20
  · rw [if_pos h]
  rw [if_neg h]
  exact srow_l0 rs a ha hB (by omega) rs.length 40000 0 (by omega) (by simp) (by omega)
end Go.Proofs.Ytdmhamnnadegnaa.Pure

/- What is escaped is plain again and has none of the bytes that are escaped, but behind an escape; what is sent comes. -/
import Derived.Test.YtdmhamnnadegnaaSayStuffBack
import Derived.Test.YtdmhamnnadegnaaBase
import Derived.Test.YtdmhamnnadegnaaBase2
import Derived.Test.YtdmhamnnadegnaaShown
import Derived.Test.YtdmhamnnadegnaaBase3
namespace Go.Proofs.Ytdmhamnnadegnaa.Pure
set_option linter.unusedVariables false
open Go Go.RowKit Go.Proofs.Ytdmhamnnadegnaa.Q Go.Proofs.YtdmhamnnadegnaaK Go.Proofs.YtdmhamnnadegnaaW.PrintWords Go.Proofs.YtdmhamnnadegnaaW.PrintLast Go.Proofs.YtdmhamnnadegnaaW.PrintMore

theorem back_l0 (l m e : List Int) (a : Int) (ha : 0 ≤ a ∧ a ≤ 4294967295) (he : e.length ≤ 1000000) (hc : ∀ c ∈ e, (0 ≤ c ∧ c ≤ 255) ∧ c ≠ 126 ∧ (c < 32 → abit a c = false)) (P : Option Bool → Prop) : ∀ (d k i : Nat), i + d = e.length → 2 * d + 1 ≤ k → (∀ k', k' + 2 * d + 1 = k → P (portreevelaw07_StuffBack.l0 (k' + 1) l a m true e l 0 (e.length : Int))) → P (portreevelaw07_StuffBack.l0 k l a m true e l 0 (i : Int))
  | 0, k, i, hd, hk, h => by
    obtain ⟨k, rfl⟩ : ∃ m, k = m + 1 := ⟨k - 1, by omega⟩
    have : i = e.length := by omega
    subst this
    exact h k rfl
  | d + 1, k, i, hd, hk, h => by
    obtain ⟨k, rfl⟩ : ∃ m, k = m + 2 := ⟨k - 2, by omega⟩
    have hi : i < e.length := by omega
    have hx := hc e[i] (List.getElem_mem hi)
    rw [portreevelaw07_StuffBack.l0, if_pos (by omega), if_pos (by omega), rd_lt e i hi, if_neg hx.2.1]
    have ih := back_l0 l m e a ha he hc P d k (i + 1) (by omega) (by omega) (fun k' hk' => h k' (by omega))
    by_cases h3 : e[i] < 32
    · rw [if_pos h3, if_pos hx.1.1, tm ha hx.1.1 h3, hx.2.2 h3, portreevelaw07_StuffBack.j2, if_neg (by simp), w64 (by omega) (by omega), show ((i : Int) + 1) = ((i + 1 : Nat) : Int) by omega]
      exact ih
    · rw [if_neg h3, portreevelaw07_StuffBack.j2, if_neg (by simp), w64 (by omega) (by omega), show ((i : Int) + 1) = ((i + 1 : Nat) : Int) by omega]
      exact ih

theorem StuffBack : portreevelaw07_StuffBack.Pure := by
  intro l a m hl ha hm
  refine ⟨40000, ?_⟩
  have hB := B_of hl.2
  have hM := B_of hm.2
  rw [wf_u32] at ha
  unfold portreevelaw07_StuffBack.f
  rw [shown_true _ (by omega), Option.bind_some]
  by_cases h : (l.length : Int) > 700
  · rw [if_pos h, portreevelaw07_StuffBack.j0, if_pos rfl]
  rw [if_neg h]
  by_cases h2 : (m.length : Int) > 700
  · rw [decide_eq_true h2, portreevelaw07_StuffBack.j0, if_pos rfl]
  have hE := E_length a l
  have hS := send_length a l
  have hEB := E_B a hB
  have hSB := send_B a hB
  rw [decide_eq_false h2, portreevelaw07_StuffBack.j0, if_neg (by simp), escape_own _ a ha l hB (by omega) (by omega), Option.bind_some, plain_own _ _ hEB (by omega) (by omega), Option.bind_some, Pl_E a hB, pres_nil]
  refine back_l0 l m (E a l) a ha (by omega) (E_clean a hB) (fun o => o = some true) (E a l).length _ 0 (by omega) (by omega) (fun k hk => ?_)
  obtain ⟨k, rfl⟩ : ∃ m, k = m + 1 := ⟨k - 1, by omega⟩
  rw [portreevelaw07_StuffBack.l0, if_neg (by omega), if_pos rfl, row _ _ _ (by omega) (by omega), Option.bind_some, portreevelaw07_StuffBack.j3, if_neg (by simp), send_own _ a ha l hB (by omega) (by omega), Option.bind_some, all_own _ _ hSB (by omega) (by omega), Option.bind_some]
  by_cases h0 : l.length = 0
  · rw [if_pos (by omega), if_pos rfl]
    obtain rfl : l = [] := List.eq_nil_of_length_eq_zero h0
    rfl
  · have h1 := Sg_send a hB (by omega) (by omega) []
    rw [List.append_nil] at h1
    obtain ⟨fs, hfs⟩ := Sg_behind m [] (E a l ++ [126])
    have hq : Sg [] (m ++ send a l) = fs ++ [l] := by
      have : Sg [] (E a l ++ 126 :: []) = l :: Sg [] [] := Sg_E a hB (by omega) (by omega) []
      rw [show m ++ send a l = m ++ 126 :: (E a l ++ [126]) by simp [send], hfs, this]
      rfl
    have hb : B (m ++ send a l) := by
      intro c hc
      rw [List.mem_append] at hc
      exact hc.elim (hM c) (hSB c)
    have hg := Sg_bound (m ++ send a l) []
    rw [List.length_append] at hg
    rw [if_neg (by omega), Option.bind_some, if_pos (by simp only [List.length_nil]; omega), Option.bind_some, Option.bind_some, List.nil_append, if_pos (by omega), all_own _ _ hb (by rw [List.length_append]; omega) (by rw [List.length_append]; omega), Option.bind_some, if_pos rfl, h1, hq]
    rw [hq, List.length_append] at hg
    have hg2 := hg.2
    simp only [List.length_cons, List.length_nil] at hg2
    have e1 : rd_L2 (l :: Sg [] []) 0 = l := rfl
    have e2 : wrap64 (((fs ++ [l]).length : Int) - 1) = ((fs.length : Nat) : Int) := by
      rw [List.length_append, List.length_singleton, w64 (by omega) (by omega)]; omega
    have e3 : rd_L2 (fs ++ [l]) ((fs.length : Nat) : Int) = l := by
      rw [rd2_lt _ _ (by simp)]; simp
    rw [if_pos (by simp [Sg]), if_pos (by simp [Sg]), e1, row _ _ _ (by omega) (by omega), Option.bind_some, if_pos (by simp), if_pos (by rw [List.length_append, List.length_singleton]; omega), e2, e3, if_pos (by omega), if_pos (by rw [List.length_append, List.length_singleton]; omega), row _ _ _ (by omega) (by omega), Option.bind_some]
    simp
end Go.Proofs.Ytdmhamnnadegnaa.Pure

/- Digests are of sixteen bytes, of rows of every length; those of rows of noughts of two lengths are padded apart. -/
import Derived.Test.YtadgdhefgibakaaSayMd5Long
import Derived.Test.YtadgdhefgibakaaBase
namespace Go.Proofs.Ytadgdhefgibakaa.Pure
set_option linter.unusedVariables false
open Go Go.RowKit Go.Proofs.Ytadgdhefgibakaa.Q Go.Proofs.YtadgdhefgibakaaK Go.Proofs.YtadgdhefgibakaaW.PrintWords Go.Proofs.YtadgdhefgibakaaW.PrintLast Go.Proofs.YtadgdhefgibakaaW.PrintMore

set_option maxHeartbeats 4000000 in
theorem Md5Long : portreevelaw02_Md5Long.Pure := by
  intro a0 a1 h0 h1
  rw [wf_u16] at h0 h1
  refine ⟨5000, ?_⟩
  obtain ⟨n, hn2, e0'⟩ : ∃ n : Nat, n < 2000 ∧ Int.tmod a0 2000 = (n : Int) := ⟨a0.toNat % 2000, by omega, by rw [Int.tmod_eq_emod_of_nonneg h0.1]; omega⟩
  obtain ⟨m, hm2, e1'⟩ : ∃ n : Nat, n < 2000 ∧ Int.tmod a1 2000 = (n : Int) := ⟨a1.toNat % 2000, by omega, by rw [Int.tmod_eq_emod_of_nonneg h1.1]; omega⟩
  have e0 := Aside0.mk e0'
  have e1 := Aside0.mk e1'
  clear e0' e1' h0 h1
  have w0 : wrap64 (n : Int) = (n : Int) := w64 (by omega) (by omega)
  have w1 : wrap64 (m : Int) = (m : Int) := w64 (by omega) (by omega)
  have hp0 := pad_f (List.replicate n 0) 5000 (by rw [List.length_replicate]; omega) (by omega)
  have hp1 := pad_f (List.replicate m 0) 5000 (by rw [List.length_replicate]; omega) (by omega)
  have hD : ∃ D, md5_Sum.f 5000 (List.replicate n 0) = some D := ⟨dig (List.replicate n 0), sum_f (List.replicate n 0) 5000 (by rw [List.length_replicate]; omega) (by omega)⟩
  obtain ⟨⟨d1, d2, d3, d4, d5, d6, d7, d8, d9, d10, d11, d12, d13, d14, d15, d16⟩, hs⟩ := hD
  have hl := pad_length (List.replicate n 0)
  have hmod := pad_mod (List.replicate n 0)
  have hz := zn_lt (List.replicate n (0 : Int)).length
  have hr := row 5000 (pad (List.replicate n 0)) (pad (List.replicate m 0)) (by rw [hl]; simp only [List.length_replicate] at hz ⊢; omega) (by rw [hl]; simp only [List.length_replicate] at hz ⊢; omega)
  unfold portreevelaw02_Md5Long.f md5_Same.f
  simp only [shown_f 5000 (by omega), e0.out, e1.out, w0, w1, Int.toNat_natCast, hp0, hp1, hs, Option.bind_some, beq_self_eq_true, Bool.and_self, if_true, hr]
  rw [List.length_replicate] at hl hz
  rw [if_pos (by omega), if_pos (by omega), if_pos (by omega), if_pos (by omega), if_pos (by omega), if_pos (by rw [w64] <;> omega), if_pos (by rw [w64] <;> omega)]
  congr 1
  by_cases h : n = m
  · subst h
    simp
  · have h2 : pad (List.replicate n 0) ≠ pad (List.replicate m 0) := fun he => h (by
      have := congrArg List.length (pad_inj (by rw [List.length_replicate]; omega) (by rw [List.length_replicate]; omega) he)
      simpa using this)
    have h3 : ¬ ((n : Int) = (m : Int)) := by omega
    simp [h2, h3]
end Go.Proofs.Ytadgdhefgibakaa.Pure

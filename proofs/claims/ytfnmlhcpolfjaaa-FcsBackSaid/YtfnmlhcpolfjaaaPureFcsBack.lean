/- What is put is good, and is cut as it was; of all two bytes behind just these make it good. -/
import Derived.Test.YtfnmlhcpolfjaaaSayFcsBack
import Derived.Test.YtfnmlhcpolfjaaaBase
namespace Go.Proofs.Ytfnmlhcpolfjaaa.Pure
set_option linter.unusedVariables false
open Go Go.RowKit Go.Proofs.Ytfnmlhcpolfjaaa.Q Go.Proofs.YtfnmlhcpolfjaaaK Go.Proofs.YtfnmlhcpolfjaaaCrc Go.Proofs.YtfnmlhcpolfjaaaW.PrintWords Go.Proofs.YtfnmlhcpolfjaaaW.PrintLast Go.Proofs.YtfnmlhcpolfjaaaW.PrintMore

theorem FcsBack : portreevelaw01_FcsBack.Pure := by
  intro l x y hl hx hy
  refine ⟨4000, ?_⟩
  have hB := B_of hl.2
  rw [wf_u8] at hx hy
  unfold portreevelaw01_FcsBack.f
  rw [shown_true _ (by omega), Option.bind_some]
  by_cases h : (l.length : Int) > 2000
  · rw [if_pos h]
  · have hBp := B_put hB
    have hpl := put_length l
    have hBo : B (l ++ [x, y]) := B_append hB (fun c hc => by
      simp only [List.mem_cons, List.not_mem_nil, or_false] at hc
      rcases hc with rfl | rfl <;> omega)
    rw [if_neg h, put_own _ l hB (by omega) (by omega), Option.bind_some, cut_own _ _ hBp (by omega) (by omega), Option.bind_some, if_neg (by omega), if_pos (good_put hB)]
    rw [Option.bind_some, if_pos (by simp; omega), Option.bind_some, Option.bind_some, if_pos (by simp; omega), Option.bind_some, if_pos rfl]
    rw [good_own _ _ hBp (by omega) (by omega), Option.bind_some, if_pos (by simp [good_put hB, hpl]), if_pos rfl]
    have e : (put l).take ((put l).length - 2) = l := by
      rw [hpl]
      unfold put
      simp
    simp only [List.nil_append]
    rw [e, row _ _ _ (by omega) (by omega), Option.bind_some, if_pos (by simp), good_own _ _ hBo (by simp; omega) (by simp; omega), Option.bind_some, row _ _ _ (by simp; omega) (by simp; omega), Option.bind_some]
    have e2 := good_iff hBo (by simp)
    rw [show (l ++ [x, y]).take ((l ++ [x, y]).length - 2) = l by simp] at e2
    have e3 : (2 ≤ (l ++ [x, y]).length ∧ on 65535 (toN (l ++ [x, y])) = 61624) ↔ l ++ [x, y] = put l := by
      rw [e2]
      simp
    simp only [e3]
    simp
end Go.Proofs.Ytfnmlhcpolfjaaa.Pure

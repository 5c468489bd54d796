/- A line with a byte more, and the frame that has come, are as the document says. -/
import Derived.Test.YtangahcilefelaaSayFrameTakes
import Derived.Test.YtangahcilefelaaBase
import Derived.Test.YtangahcilefelaaBase2
import Derived.Test.YtangahcilefelaaBase3
import Derived.Test.YtangahcilefelaaBase4
namespace Go.Proofs.Ytangahcilefelaa.Pure
set_option linter.unusedVariables false
open Go Go.RowKit Go.Proofs.Ytangahcilefelaa.Q Go.Proofs.YtangahcilefelaaK Go.Proofs.YtangahcilefelaaCrc Go.Proofs.YtangahcilefelaaW.PrintWords Go.Proofs.YtangahcilefelaaW.PrintLast Go.Proofs.YtangahcilefelaaW.PrintMore

theorem FrameTakes : portreevelaw08_FrameTakes.Pure := by
  intro l long c hl hc
  refine ⟨9000, ?_⟩
  have hB := B_of hl.2
  rw [wf_u8] at hc
  unfold portreevelaw08_FrameTakes.f
  rw [shown_true _ (by omega), Option.bind_some, right_own _ l long (by omega) (by omega), Option.bind_some]
  by_cases h : l.length ≤ 1508 ∧ (long = true → l.length = 0) ∧ 126 ∉ l
  · rw [if_pos (decide_eq_true h)]
    unfold frame_Take.f portreeveref08_Take.f
    rw [feed_own _ l long c hB (by omega) (by omega), Option.bind_some, rfeed _ l long c hB h.1 (by omega), Option.bind_some]
    have hn := fd_none l long c
    have hg := fd_got long c hB
    have hll := fd_length l long c h.1
    generalize fd l long c = x at hn hg hll
    obtain ⟨x1, x2, x3, x4⟩ := x
    simp only at hn hg hll
    rw [read_own _ x3 hg.1 (by omega) (by omega), Option.bind_some, rread _ x3 hg.1 (by omega) (by omega)]
    generalize hr : (if x3.length < 2 then ((0 : Int), ([] : List Int), (2 : Int)) else if on 65535 (toN x3) = 61624 then body (trim (x3.take (x3.length - 2))) else (0, [], 3)) = r
    have hrl : r.2.1.length ≤ 1500 := by
      rw [← hr]
      split
      · simp
      · split
        · generalize hb : body (trim (x3.take (x3.length - 2))) = b
          obtain ⟨q, i, e⟩ := b
          rcases body_facts (trim_B (B_take _ hg.1)) hb with h | ⟨_, h, _⟩
          · have := h.2.2.2.1
            simp only
            omega
          · simp [h]
        · simp
    clear hr
    obtain ⟨q, i, e⟩ := r
    simp only at hrl
    cases x4 with
    | true =>
      rw [if_pos rfl, if_pos rfl]
      simp only [Option.bind_some, if_true]
      rw [rsame _ x1 x2 x1 x2 (by omega) (by omega), Option.bind_some, if_pos (by simp)]
      cases he : (e == 0) with
      | true =>
        rw [if_pos (by rfl), if_pos rfl, same_own _ q i q i (by omega) (by omega), Option.bind_some]
        simp
      | false =>
        rw [if_pos (by rfl), if_neg (by simp)]
    | false =>
      rw [if_neg (by simp), if_neg (by simp)]
      simp only [Option.bind_some, if_true]
      rw [rsame _ x1 x2 x1 x2 (by omega) (by omega), Option.bind_some, if_pos (by simp)]
      rfl
  · rw [if_neg (by rw [decide_eq_true_eq]; exact h)]
end Go.Proofs.Ytangahcilefelaa.Pure

/- What is read is written and read again as it was; what is no frame reads as nothing. -/
import Derived.Test.YtangahcilefelaaSayFrameRead
import Derived.Test.YtangahcilefelaaBase
import Derived.Test.YtangahcilefelaaBase2
namespace Go.Proofs.Ytangahcilefelaa.Pure
set_option linter.unusedVariables false
open Go Go.RowKit Go.Proofs.Ytangahcilefelaa.Q Go.Proofs.YtangahcilefelaaK Go.Proofs.YtangahcilefelaaCrc Go.Proofs.YtangahcilefelaaW.PrintWords Go.Proofs.YtangahcilefelaaW.PrintLast Go.Proofs.YtangahcilefelaaW.PrintMore

theorem FrameRead : portreevelaw08_FrameRead.Pure := by
  intro l a hl
  refine ⟨4000, ?_⟩
  have hB := B_of hl.2
  unfold portreevelaw08_FrameRead.f
  rw [shown_true _ (by omega), Option.bind_some]
  by_cases h : (l.length : Int) > 1600
  · rw [if_pos h]
  · rw [if_neg h, read_own _ l hB (by omega) (by omega), Option.bind_some]
    have nothing : ∀ e : Int, (e = 2 ∨ e = 3 ∨ e = 4) → (portreeveref08_Same.f 4000 0 [] 0 ([] : List Int)).bind (fun t245 => if t245 = true then (if e = 2 then (some true) else (if e = 3 then (some true) else (some (e == 4)))) else (some false)) = some true := fun e he => by
      rw [same_own _ _ _ _ _ (by decide) (by decide), Option.bind_some, if_pos (by simp)]
      rcases he with rfl | rfl | rfl <;> rfl
    by_cases h1 : l.length < 2
    · rw [if_pos h1, if_neg (by decide), if_pos rfl]
      exact nothing 2 (.inl rfl)
    · rw [if_neg h1]
      by_cases h2 : on 65535 (toN l) = 61624
      · rw [if_pos h2]
        generalize hb : body (trim (l.take (l.length - 2))) = b
        obtain ⟨q, i, e⟩ := b
        rcases body_facts (trim_B (B_take _ hB)) hb with ⟨rfl, hq, ho, hi, hBi⟩ | ⟨rfl, rfl, he⟩
        · rw [if_pos rfl, bytes_own _ q i a hq hBi (by omega), if_pos ⟨ho, hi⟩, Option.bind_some, read_back _ q i a hq ho hBi hi (by omega), Option.bind_some, if_pos rfl, if_pos rfl, if_pos rfl, same_own _ _ _ _ _ (by show i.length ≤ _; omega) (by show i.length < _; omega), Option.bind_some, if_pos (by simp), proto_own hq, Option.bind_some, if_pos ho]
          simp
          omega
        · rw [if_neg (by rcases he with rfl | rfl <;> decide), if_pos rfl]
          exact nothing e (by omega)
      · rw [if_neg h2, if_neg (by decide), if_pos rfl]
        exact nothing 3 (.inr (.inl rfl))
end Go.Proofs.Ytangahcilefelaa.Pure

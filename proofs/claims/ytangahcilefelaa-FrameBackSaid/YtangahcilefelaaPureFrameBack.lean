/- What is sent is taken as it was, short or not, whatever stood ahead; as bytes, too. -/
import Derived.Test.YtangahcilefelaaSayFrameBack
import Derived.Test.YtangahcilefelaaBase
import Derived.Test.YtangahcilefelaaBase2
import Derived.Test.YtangahcilefelaaBase3
import Derived.Test.YtangahcilefelaaBase5
namespace Go.Proofs.Ytangahcilefelaa.Pure
set_option linter.unusedVariables false
open Go Go.RowKit Go.Proofs.Ytangahcilefelaa.Q Go.Proofs.YtangahcilefelaaK Go.Proofs.YtangahcilefelaaCrc Go.Proofs.YtangahcilefelaaW.PrintWords Go.Proofs.YtangahcilefelaaW.PrintLast Go.Proofs.YtangahcilefelaaW.PrintMore

theorem FrameBack : portreevelaw08_FrameBack.Pure := by
  intro p l m a b hp hl hm hb
  refine ⟨9000, ?_⟩
  have hB := B_of hl.2
  have hBb := B_of hb.2
  rw [wf_u16] at hp
  rw [wf_u32] at hm
  unfold portreevelaw08_FrameBack.f
  rw [shown_true _ (by omega), Option.bind_some]
  have skip : ∀ k, 1 ≤ k → portreevelaw08_FrameBack.j0 k m a b true true p l = some true := fun k hk => by
    obtain ⟨k, rfl⟩ : ∃ n, k = n + 1 := ⟨k - 1, by omega⟩
    rw [portreevelaw08_FrameBack.j0, if_pos rfl]
  by_cases h : (l.length : Int) > 700
  · rw [if_pos h]
    exact skip _ (by omega)
  · rw [if_neg h]
    by_cases h2 : (b.length : Int) > 300
    · rw [decide_eq_true h2]
      exact skip _ (by omega)
    · rw [decide_eq_false h2, portreevelaw08_FrameBack.j0, if_neg (by decide), fsend_own _ p l m a hp hB hm (by omega), Option.bind_some]
      by_cases ho : ok p = true
      · have hq : ok p = true ∧ l.length ≤ 1500 := ⟨ho, by omega⟩
        rw [if_pos hq, if_pos rfl, bytes_own _ p l a hp hB (by omega), if_pos hq, Option.bind_some, read_back _ p l a hp ho hB (by omega) (by omega), Option.bind_some, if_pos rfl, if_pos rfl, same_own _ p l p l (by omega) (by omega), Option.bind_some]
        have hpl := plain_length p l a
        have hpp := put_length (plain p l a)
        have hBs := B_put (plain_B hp hB a)
        have hsl := send_length m (put (plain p l a))
        have hel := E_length m (put (plain p l a))
        have hr := rdv_put a hp ho hB (by omega)
        show portreevelaw08_FrameBack.j1 8999 b true (send m (put (plain p l a))) (!decide (l = l ∧ p = p)) p l = some true
        generalize put (plain p l a) = x at hpp hBs hsl hel hr
        rw [show (!decide (l = l ∧ p = p)) = false by simp, portreevelaw08_FrameBack.j1, if_neg (by decide), Option.bind_some, if_pos (by simp; omega), Option.bind_some, List.nil_append, if_pos (by omega), taken_own _ _ (B_append hBb (send_B m hBs)) (by rw [List.length_append]; omega) (by rw [List.length_append]; omega), Option.bind_some, if_pos rfl]
        obtain ⟨fs, hfs⟩ := Sg_behind b [] (E m x ++ [126])
        have e1 : Sg [] (b ++ send m x) = fs ++ [x] := by
          rw [show send m x = 126 :: (E m x ++ [126]) by unfold send; simp, hfs, Sg_E m hBs (by omega) (by omega)]
          rfl
        have e2 : Fs (Sg [] (b ++ send m x)) = Fs fs ++ [⟨p, l⟩] := by
          rw [e1, Fs_append]
          congr 1
          rw [Fs, hr, if_pos rfl]
          rfl
        have hfl : (Fs (Sg [] (b ++ send m x))).length < 4611686018427387904 := by
          have q1 := Sg_bound (b ++ send m x) []
          have q2 := Fs_length (Sg [] (b ++ send m x))
          rw [List.length_append] at q1
          omega
        rw [e2] at hfl ⊢
        generalize Fs fs = y at hfl
        have hn : (y ++ [(⟨p, l⟩ : S25)]).length = y.length + 1 := by simp
        have hw : wrap64 (((y ++ [(⟨p, l⟩ : S25)]).length : Int) - 1) = (y.length : Int) := by rw [w64 (by omega) (by omega)]; omega
        rw [hw, if_pos (by omega), if_pos (by omega), if_pos (by omega), rd25 _ _ (by omega)]
        rw [show (y ++ [(⟨p, l⟩ : S25)])[y.length]'(by omega) = ⟨p, l⟩ by simp, same_own _ p l p l (by omega) (by omega), Option.bind_some]
        simp
      · have hq : ¬ (ok p = true ∧ l.length ≤ 1500) := fun q => ho q.1
        rw [if_neg hq, if_neg (by decide), if_pos rfl, if_pos rfl, proto_own hp, Option.bind_some, if_neg ho]
        rfl
end Go.Proofs.Ytangahcilefelaa.Pure

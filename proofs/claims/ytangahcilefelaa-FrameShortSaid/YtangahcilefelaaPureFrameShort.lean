/- A frame in short form saves what its head saves, and holds the same bytes. -/
import Derived.Test.YtangahcilefelaaSayFrameShort
import Derived.Test.YtangahcilefelaaBase
import Derived.Test.YtangahcilefelaaBase2
namespace Go.Proofs.Ytangahcilefelaa.Pure
set_option linter.unusedVariables false
open Go Go.RowKit Go.Proofs.Ytangahcilefelaa.Q Go.Proofs.YtangahcilefelaaK Go.Proofs.YtangahcilefelaaCrc Go.Proofs.YtangahcilefelaaW.PrintWords Go.Proofs.YtangahcilefelaaW.PrintLast Go.Proofs.YtangahcilefelaaW.PrintMore

theorem FrameShort : portreevelaw08_FrameShort.Pure := by
  intro p l hp hl
  refine ⟨4000, ?_⟩
  have hB := B_of hl.2
  rw [wf_u16] at hp
  unfold portreevelaw08_FrameShort.f
  rw [shown_true _ (by omega), Option.bind_some]
  by_cases h : (l.length : Int) > 1500
  · rw [if_pos h]
  · rw [if_neg h, bytes_own _ p l false hp hB (by omega), Option.bind_some, bytes_own _ p l true hp hB (by omega), Option.bind_some]
    by_cases ho : ok p = true
    · have hq : ok p = true ∧ l.length ≤ 1500 := ⟨ho, by omega⟩
      rw [if_pos hq, if_pos hq, if_pos rfl]
      have e1 : plain p l false = [255, 3, p / 256 % 256, p % 256] ++ l := by unfold plain bytes_head; simp
      -- what stands ahead of what is held
      have cut : ∀ (hd : List Int) (n : Nat), n = hd.length → ((put (hd ++ l)).take (n + l.length)).drop n = l := fun hd n hn => by
        subst hn
        unfold put
        rw [List.append_assoc, List.take_append, List.drop_append, Nat.add_sub_cancel_left, List.take_of_length_le (by omega), List.drop_length, List.nil_append, Nat.sub_self, List.drop_zero, List.take_left']
        rfl
      have fin : ∀ (hd : List Int) (d : Nat), plain p l true = hd ++ l → hd.length + d = 4 → portreevelaw08_FrameShort.j1 3999 true (put (plain p l false)) (put (plain p l true)) 0 d p l = some true := fun hd d e2 hd4 => by
        have n1 : (put (plain p l false)).length = l.length + 6 := by rw [put_length, e1]; simp
        have n2 : (put (plain p l true)).length = hd.length + l.length + 2 := by rw [put_length, e2]; simp
        rw [portreevelaw08_FrameShort.j1, if_pos rfl, if_pos rfl, n1, n2, w64 (a := (l.length : Int) + 6) (by omega) (by omega), if_pos (by omega), w64 (a := ((l.length + 6 : Nat) : Int) - d) (by omega) (by omega), if_pos (by omega)]
        rw [w64 (a := 4 + (l.length : Int)) (by omega) (by omega), if_pos (by omega), if_pos (by omega), show (4 + (l.length : Int)).toNat = 4 + l.length by omega, e1, cut _ 4 rfl, row _ _ _ (by omega) (by omega), Option.bind_some, if_pos (by simp)]
        rw [w64 (a := 4 - (d : Int)) (by omega) (by omega), w64 (a := 4 - (d : Int) + (l.length : Int)) (by omega) (by omega), if_pos (by omega), if_pos (by omega), if_pos (by omega), show (4 - (d : Int) + (l.length : Int)).toNat = hd.length + l.length by omega, show (4 - (d : Int)).toNat = hd.length by omega, e2, cut _ _ rfl, row _ _ _ (by omega) (by omega), Option.bind_some]
        simp
      have ha : p / 256 % 2 = 0 ∧ p ≠ 255 := by simp only [ok, decide_eq_true_eq] at ho; exact ho.2
      by_cases hs : p < 256
      · have e2 : plain p l true = [p % 256] ++ l := by
          unfold plain bytes_head
          rw [if_pos (by simp; omega), if_pos (by simp; omega)]
        rw [if_pos hs, portreevelaw08_FrameShort.j0, if_neg (by omega)]
        exact fin [p % 256] 3 e2 rfl
      · rw [if_neg hs, portreevelaw08_FrameShort.j0]
        by_cases h5 : p = 49185
        · have e2 : plain p l true = [255, 3, p / 256 % 256, p % 256] ++ l := by
            unfold plain bytes_head
            rw [if_neg (by simp [h5])]
          rw [if_pos h5]
          exact fin _ 0 e2 rfl
        · have e2 : plain p l true = [p / 256 % 256, p % 256] ++ l := by
            unfold plain bytes_head
            rw [if_pos (by simp [h5]), if_neg (by simp; omega)]
          rw [if_neg h5]
          exact fin _ 2 e2 rfl
    · have hq : ¬ (ok p = true ∧ l.length ≤ 1500) := fun q => ho q.1
      rw [if_neg hq, if_neg hq, if_neg (by decide), if_pos rfl, if_pos rfl]
      decide +kernel
end Go.Proofs.Ytangahcilefelaa.Pure

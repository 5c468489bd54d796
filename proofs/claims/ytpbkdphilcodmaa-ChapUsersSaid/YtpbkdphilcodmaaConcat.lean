/- What slices.Concat gives of three rows. -/
import Derived.Test.YtpbkdphilcodmaaQx0
import Derived.Test.YtpbkdphilcodmaaQx6
import Derived.Test.YtpbkdphilcodmaaQx7
import Derived.Test.YtpbkdphilcodmaaPureKit
import Derived.Test.YtpbkdphilcodmaaNm
namespace Go.Proofs.Ytpbkdphilcodmaa.Pure
set_option linter.unusedVariables false
open Go Go.RowKit Go.Proofs.Ytpbkdphilcodmaa.Q Go.Proofs.YtpbkdphilcodmaaK Go.Proofs.YtpbkdphilcodmaaV Go.Proofs.YtpbkdphilcodmaaW.PrintWords Go.Proofs.YtpbkdphilcodmaaW.PrintLast Go.Proofs.YtpbkdphilcodmaaW.PrintMore

theorem concat3 (a b c : List Int) (hl : a.length + b.length + c.length ≤ 100000) : slices_Concat_byte_byte.f 10 [a, b, c] = some (a ++ b ++ c) := by
  have r0 : rd_L1 [a, b, c] 0 = a := rfl
  have r1 : rd_L1 [a, b, c] 1 = b := rfl
  have r2 : rd_L1 [a, b, c] 2 = c := rfl
  have w1 : wrap64 ((0 : Int) + 1) = 1 := wrap64_of (by omega)
  have w2 : wrap64 ((1 : Int) + 1) = 2 := wrap64_of (by omega)
  have w3 : wrap64 ((2 : Int) + 1) = 3 := wrap64_of (by omega)
  have s1 : wrap64 ((0 : Int) + (a.length : Int)) = (a.length : Int) := by rw [wrap64_of (by omega)]; omega
  have s2 : wrap64 ((a.length : Int) + (b.length : Int)) = ((a.length + b.length : Nat) : Int) := by rw [wrap64_of (by omega)]; omega
  have s3 : wrap64 (((a.length + b.length : Nat) : Int) + (c.length : Int)) = ((a.length + b.length + c.length : Nat) : Int) := by rw [wrap64_of (by omega)]; omega
  have hL : (([a, b, c] : List (List Int)).length : Int) = 3 := rfl
  unfold slices_Concat_byte_byte.f
  rw [hL]
  rw [slices_Concat_byte_byte.l0, if_pos (by decide), if_pos (by decide), hL, if_pos (by decide), r0, s1, if_neg (by omega), w1]
  rw [slices_Concat_byte_byte.l0, if_pos (by decide), if_pos (by decide), hL, if_pos (by decide), r1, s2, if_neg (by omega), w2]
  rw [slices_Concat_byte_byte.l0, if_pos (by decide), if_pos (by decide), hL, if_pos (by decide), r2, s3, if_neg (by omega), w3]
  rw [slices_Concat_byte_byte.l0, if_neg (by decide)]
  have hg : slices_Grow_byte_byte.f ([] : List Int) ((a.length + b.length + c.length : Nat) : Int) = some [] := by
    unfold slices_Grow_byte_byte.f
    rw [if_pos ⟨rfl, by omega, by omega⟩]
  rw [hg, Option.bind_some, hL]
  rw [slices_Concat_byte_byte.l1, if_pos (by decide), if_pos (by decide), hL, if_pos (by decide), r0, List.nil_append, if_pos (by simp only [List.length_nil]; omega), w1]
  rw [slices_Concat_byte_byte.l1, if_pos (by decide), if_pos (by decide), hL, if_pos (by decide), r1, if_pos (by omega), w2]
  rw [slices_Concat_byte_byte.l1, if_pos (by decide), if_pos (by decide), hL, if_pos (by decide), r2, if_pos (by rw [List.length_append]; omega), w3]
  rw [slices_Concat_byte_byte.l1, if_neg (by decide)]
end Go.Proofs.Ytpbkdphilcodmaa.Pure

/- The worked answers of stuffing. -/
import Derived.Test.YtdmhamnnadegnaaQx6
import Derived.Test.YtdmhamnnadegnaaPureKit
import Derived.Test.YtdmhamnnadegnaaBase2
namespace Go.Proofs.Ytdmhamnnadegnaa.Pure
set_option linter.unusedVariables false
open Go Go.RowKit Go.Proofs.Ytdmhamnnadegnaa.Q Go.Proofs.YtdmhamnnadegnaaK Go.Proofs.YtdmhamnnadegnaaW.PrintWords Go.Proofs.YtdmhamnnadegnaaW.PrintLast Go.Proofs.YtdmhamnnadegnaaW.PrintMore
theorem allB (l : List Int) (h : l.all (fun x => decide (0 ≤ x) && decide (x ≤ 255)) = true) : B l := by
  intro x hx
  have := List.all_eq_true.mp h x hx
  simpa using this
theorem shown_true (k : Nat) (h : 1700 ≤ k) : portreevelaw07_shown.f k = some true := by
  have h1 : send 0 [126] = [126, 125, 94, 126] := by decide +kernel
  have h2 : Sg [] [1, 2, 126, 125, 94, 126] = [[1, 2], [126]] := by decide +kernel
  have h3 : fd [7] false 126 = ([], false, [7], true) := by decide +kernel
  have h4 : pres [] (Pl false [125, 94]) = ([126], 0) := by decide +kernel
  have h5 : E 8 [3] = [125, 35] := by decide +kernel
  unfold portreevelaw07_shown.f portreevelaw07_shown_g.f
  rw [send_own k 0 (by omega) [126] (allB _ (by decide)) (by simp) (by simp; omega), h1, Option.bind_some, Option.bind_some, if_pos (by simp),
    show ([1, 2] ++ [126, 125, 94, 126] : List Int) = [1, 2, 126, 125, 94, 126] from rfl, all_own k [1, 2, 126, 125, 94, 126] (allB _ (by decide)) (by simp) (by simp; omega), h2, Option.bind_some,
    feed_own k [7] false 126 (allB _ (by decide)) (by simp) (by simp; omega), h3, Option.bind_some, if_pos (by simp), if_pos (by omega), if_pos (by simp),
    show (([126, 125, 94, 126] : List Int).take 3).drop 1 = [125, 94] from rfl, plain_own k [125, 94] (allB _ (by decide)) (by simp) (by simp; omega), h4, Option.bind_some]
  simp only [stuff_same [] false [] false (allB _ (by decide)) (allB _ (by decide)), escape_own k 8 (by omega) [3] (allB _ (by decide)) (by simp) (by simp; omega), h5, Option.bind_some]
  decide +kernel
end Go.Proofs.Ytdmhamnnadegnaa.Pure

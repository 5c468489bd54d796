/- The worked answers. -/
import Derived.Test.YtgijfaecplodfaaQx4
import Derived.Test.YtgijfaecplodfaaPureKit
import Derived.Test.YtgijfaecplodfaaBase
namespace Go.Proofs.Ytgijfaecplodfaa.Pure
set_option linter.unusedVariables false
open Go Go.RowKit Go.Proofs.Ytgijfaecplodfaa.Q Go.Proofs.YtgijfaecplodfaaK Go.Proofs.YtgijfaecplodfaaW.PrintWords Go.Proofs.YtgijfaecplodfaaW.PrintLast Go.Proofs.YtgijfaecplodfaaW.PrintMore
theorem shown_true (k : Nat) (h : 1 ≤ k) : portreevelaw09_shown.f k = some true := by
  unfold portreevelaw09_shown.f
  have hB : B [5, 8, 0, 5, 9, 10] := by intro x hx; simp only [List.mem_cons, List.not_mem_nil, or_false] at hx; omega
  rw [bytes_own 1 7 [] (by simp), Option.bind_some, read_own k _ hB (by simp) h, Option.bind_some, reject_own _ _ _ _ (by have := pr_length [5, 8, 0, 5, 9, 10]; omega), Option.bind_some, same_own _ _ _ _ _ _ (pr_B _ hB) (pr_B _ hB)]
  decide +kernel
end Go.Proofs.Ytgijfaecplodfaa.Pure

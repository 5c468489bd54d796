-- written by this session's own program (wip/tools/myprint.py), over the kit's print
import Derived.Test.YtgijfaecplodfaaRdr
import Derived.Test.YtgijfaecplodfaaQx0
namespace Go.Proofs.Ytgijfaecplodfaa.Q
open Go.RowKit Go.Proofs.YtgijfaecplodfaaW.PrintWords Go.Proofs.YtgijfaecplodfaaR
def g24 (b_ : S24) : Prop := ((Lit.int .u8 b_.f0).wf = true ∧ ((Lit.int .u8 b_.f1).wf = true ∧ ((b_.f2).length * 1 ≤ 140737488351232 ∧ ∀ a_ ∈ b_.f2, (Lit.int .u8 a_).wf = true)))
theorem rdr24 : Rdr Try.prog 24 k24 g24 :=
  Rdr.struct Try.underlying24 rfl (by kernel_rfl) (fun x : S24 => (x.f0, x.f1, x.f2)) (fun y => ⟨y.1, y.2.1, y.2.2⟩) (fun _ => rfl) (RdrF.cons (o' := 1) rfl (by kernel_rfl) (Rdr.int Try.underlying5) (by kernel_rfl) (RdrF.cons (o' := 2) rfl (by kernel_rfl) (Rdr.int Try.underlying5) (by kernel_rfl) (RdrF.one rfl (by kernel_rfl) (Rdr.slice (B := 1) Try.underlying22 (by kernel_rfl) (by kernel_rfl) (Rdr.int Try.underlying5)))))
end Go.Proofs.Ytgijfaecplodfaa.Q

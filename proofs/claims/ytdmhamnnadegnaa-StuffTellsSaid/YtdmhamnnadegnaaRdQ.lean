-- written by this session's own program (wip/tools/myprint.py), over the kit's print
import Derived.Test.YtdmhamnnadegnaaRdr
import Derived.Test.YtdmhamnnadegnaaQx0
namespace Go.Proofs.Ytdmhamnnadegnaa.Q
open Go.RowKit Go.Proofs.YtdmhamnnadegnaaW.PrintWords Go.Proofs.YtdmhamnnadegnaaR
def g37 (b_ : S37) : Prop := (((b_.f0).length * 1 ≤ 140737488351232 ∧ ∀ a_ ∈ b_.f0, (Lit.int .u8 a_).wf = true) ∧ True)
theorem rdr37 : Rdr Try.prog 37 k37 g37 :=
  Rdr.struct Try.underlying37 rfl (by kernel_rfl) (fun x : S37 => (x.f0, x.f1)) (fun y => ⟨y.1, y.2⟩) (fun _ => rfl) (RdrF.cons (o' := 1) rfl (by kernel_rfl) (Rdr.slice (B := 1) Try.underlying22 (by kernel_rfl) (by kernel_rfl) (Rdr.int Try.underlying5)) (by kernel_rfl) (RdrF.one rfl (by kernel_rfl) (Rdr.bool Try.underlying4)))
end Go.Proofs.Ytdmhamnnadegnaa.Q

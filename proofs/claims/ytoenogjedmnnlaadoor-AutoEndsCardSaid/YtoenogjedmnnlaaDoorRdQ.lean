-- written by this session's own program (wip/tools/myprint.py), over the kit's print
import Derived.Test.YtoenogjedmnnlaaDoorRdr
import Derived.Test.YtoenogjedmnnlaaDoorQx0
namespace Go.Proofs.YtoenogjedmnnlaaDoor.Q
open Go.RowKit Go.Proofs.YtoenogjedmnnlaaDoorW.PrintWords Go.Proofs.YtoenogjedmnnlaaDoorR
def g23 (b_ : S23) : Prop := ((Lit.int .i64 b_.f0).wf = true ∧ ((Lit.int .i64 b_.f1).wf = true ∧ ((Lit.int .i64 b_.f2).wf = true ∧ (Lit.int .u8 b_.f3).wf = true)))
theorem rdr23 : Rdr Tryd.prog 23 k23 g23 :=
  Rdr.struct Tryd.underlying23 rfl (by kernel_rfl) (fun x : S23 => (x.f0, x.f1, x.f2, x.f3)) (fun y => ⟨y.1, y.2.1, y.2.2.1, y.2.2.2⟩) (fun _ => rfl) (RdrF.cons (o' := 1) rfl (by kernel_rfl) (Rdr.int Tryd.underlying3) (by kernel_rfl) (RdrF.cons (o' := 2) rfl (by kernel_rfl) (Rdr.int Tryd.underlying3) (by kernel_rfl) (RdrF.cons (o' := 3) rfl (by kernel_rfl) (Rdr.int Tryd.underlying3) (by kernel_rfl) (RdrF.one rfl (by kernel_rfl) (Rdr.int Tryd.underlying5)))))
end Go.Proofs.YtoenogjedmnnlaaDoor.Q

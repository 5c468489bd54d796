-- written by this session's own program (wip/tools/myprint.py), over the kit's print
import Derived.Test.YtangahcilefelaaRdr
import Derived.Test.YtangahcilefelaaQx0
namespace Go.Proofs.Ytangahcilefelaa.Q
open Go.RowKit Go.Proofs.YtangahcilefelaaW.PrintWords Go.Proofs.YtangahcilefelaaR
def g25 (b_ : S25) : Prop := ((Lit.int .u16 b_.f0).wf = true ∧ ((b_.f1).length * 1 ≤ 140737488351232 ∧ ∀ a_ ∈ b_.f1, (Lit.int .u8 a_).wf = true))
theorem rdr25 : Rdr Try.prog 25 k25 g25 :=
  Rdr.struct Try.underlying25 rfl (by kernel_rfl) (fun x : S25 => (x.f0, x.f1)) (fun y => ⟨y.1, y.2⟩) (fun _ => rfl) (RdrF.cons (o' := 1) rfl (by kernel_rfl) (Rdr.int Try.underlying22) (by kernel_rfl) (RdrF.one rfl (by kernel_rfl) (Rdr.slice (B := 1) Try.underlying23 (by kernel_rfl) (by kernel_rfl) (Rdr.int Try.underlying5))))
def g38 (b_ : S38) : Prop := (((b_.f0).length * 1 ≤ 140737488351232 ∧ ∀ a_ ∈ b_.f0, (Lit.int .u8 a_).wf = true) ∧ True)
theorem rdr38 : Rdr Try.prog 38 k38 g38 :=
  Rdr.struct Try.underlying38 rfl (by kernel_rfl) (fun x : S38 => (x.f0, x.f1)) (fun y => ⟨y.1, y.2⟩) (fun _ => rfl) (RdrF.cons (o' := 1) rfl (by kernel_rfl) (Rdr.slice (B := 1) Try.underlying23 (by kernel_rfl) (by kernel_rfl) (Rdr.int Try.underlying5)) (by kernel_rfl) (RdrF.one rfl (by kernel_rfl) (Rdr.bool Try.underlying4)))
def g46 (b_ : S46) : Prop := (g25 b_.f0 ∧ ((Lit.int .u32 b_.f1).wf = true ∧ (True ∧ ((b_.f3).length * 1 ≤ 140737488351232 ∧ ∀ a_ ∈ b_.f3, (Lit.int .u8 a_).wf = true))))
theorem rdr46 : Rdr Try.prog 46 k46 g46 :=
  Rdr.struct Try.underlying46 rfl (by kernel_rfl) (fun x : S46 => (x.f0, x.f1, x.f2, x.f3)) (fun y => ⟨y.1, y.2.1, y.2.2.1, y.2.2.2⟩) (fun _ => rfl) (RdrF.cons (o' := 2) rfl (by kernel_rfl) rdr25 (by kernel_rfl) (RdrF.cons (o' := 3) rfl (by kernel_rfl) (Rdr.int Try.underlying44) (by kernel_rfl) (RdrF.cons (o' := 4) rfl (by kernel_rfl) (Rdr.bool Try.underlying4) (by kernel_rfl) (RdrF.one rfl (by kernel_rfl) (Rdr.slice (B := 1) Try.underlying23 (by kernel_rfl) (by kernel_rfl) (Rdr.int Try.underlying5))))))
end Go.Proofs.Ytangahcilefelaa.Q

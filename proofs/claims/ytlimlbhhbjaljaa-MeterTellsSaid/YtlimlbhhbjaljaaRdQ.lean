-- written by this session's own program (wip/tools/myprint.py), over the kit's print
import Derived.Test.YtlimlbhhbjaljaaRdr
import Derived.Test.YtlimlbhhbjaljaaQx0
namespace Go.Proofs.Ytlimlbhhbjaljaa.Q
open Go.RowKit Go.Proofs.YtlimlbhhbjaljaaW.PrintWords Go.Proofs.YtlimlbhhbjaljaaR
def g24 (b_ : S24) : Prop := ((Lit.int .u64 b_.f0).wf = true ∧ ((Lit.int .u64 b_.f1).wf = true ∧ (Lit.int .i64 b_.f2).wf = true))
theorem rdr24 : Rdr Try.prog 24 k24 g24 :=
  Rdr.struct Try.underlying24 rfl (by kernel_rfl) (fun x : S24 => (x.f0, x.f1, x.f2)) (fun y => ⟨y.1, y.2.1, y.2.2⟩) (fun _ => rfl) (RdrF.cons (o' := 1) rfl (by kernel_rfl) (Rdr.int Try.underlying22) (by kernel_rfl) (RdrF.cons (o' := 2) rfl (by kernel_rfl) (Rdr.int Try.underlying22) (by kernel_rfl) (RdrF.one rfl (by kernel_rfl) (Rdr.int Try.underlying3))))
def g26 (b_ : S26) : Prop := (g24 b_.f0 ∧ ((Lit.int .i64 b_.f1).wf = true ∧ ((Lit.int .i64 b_.f2).wf = true ∧ ((Lit.int .i64 b_.f3).wf = true ∧ (Lit.int .i64 b_.f4).wf = true))))
theorem rdr26 : Rdr Try.prog 26 k26 g26 :=
  Rdr.struct Try.underlying26 rfl (by kernel_rfl) (fun x : S26 => (x.f0, x.f1, x.f2, x.f3, x.f4)) (fun y => ⟨y.1, y.2.1, y.2.2.1, y.2.2.2.1, y.2.2.2.2⟩) (fun _ => rfl) (RdrF.cons (o' := 3) rfl (by kernel_rfl) rdr24 (by kernel_rfl) (RdrF.cons (o' := 4) rfl (by kernel_rfl) (Rdr.int Try.underlying3) (by kernel_rfl) (RdrF.cons (o' := 5) rfl (by kernel_rfl) (Rdr.int Try.underlying3) (by kernel_rfl) (RdrF.cons (o' := 6) rfl (by kernel_rfl) (Rdr.int Try.underlying3) (by kernel_rfl) (RdrF.one rfl (by kernel_rfl) (Rdr.int Try.underlying3))))))
def g40 (b_ : S40) : Prop := (g24 b_.f0 ∧ ((Lit.int .i64 b_.f1).wf = true ∧ ((Lit.int .i64 b_.f2).wf = true ∧ (Lit.int .u8 b_.f3).wf = true)))
theorem rdr40 : Rdr Try.prog 40 k40 g40 :=
  Rdr.struct Try.underlying40 rfl (by kernel_rfl) (fun x : S40 => (x.f0, x.f1, x.f2, x.f3)) (fun y => ⟨y.1, y.2.1, y.2.2.1, y.2.2.2⟩) (fun _ => rfl) (RdrF.cons (o' := 3) rfl (by kernel_rfl) rdr24 (by kernel_rfl) (RdrF.cons (o' := 4) rfl (by kernel_rfl) (Rdr.int Try.underlying3) (by kernel_rfl) (RdrF.cons (o' := 5) rfl (by kernel_rfl) (Rdr.int Try.underlying3) (by kernel_rfl) (RdrF.one rfl (by kernel_rfl) (Rdr.int Try.underlying5)))))
def g59 (b_ : S59) : Prop := (g24 b_.f0 ∧ ((Lit.int .u32 b_.f1).wf = true ∧ ((Lit.int .u32 b_.f2).wf = true ∧ ((Lit.int .u32 b_.f3).wf = true ∧ (Lit.int .u32 b_.f4).wf = true))))
theorem rdr59 : Rdr Try.prog 59 k59 g59 :=
  Rdr.struct Try.underlying59 rfl (by kernel_rfl) (fun x : S59 => (x.f0, x.f1, x.f2, x.f3, x.f4)) (fun y => ⟨y.1, y.2.1, y.2.2.1, y.2.2.2.1, y.2.2.2.2⟩) (fun _ => rfl) (RdrF.cons (o' := 3) rfl (by kernel_rfl) rdr24 (by kernel_rfl) (RdrF.cons (o' := 4) rfl (by kernel_rfl) (Rdr.int Try.underlying33) (by kernel_rfl) (RdrF.cons (o' := 5) rfl (by kernel_rfl) (Rdr.int Try.underlying33) (by kernel_rfl) (RdrF.cons (o' := 6) rfl (by kernel_rfl) (Rdr.int Try.underlying33) (by kernel_rfl) (RdrF.one rfl (by kernel_rfl) (Rdr.int Try.underlying33))))))
end Go.Proofs.Ytlimlbhhbjaljaa.Q

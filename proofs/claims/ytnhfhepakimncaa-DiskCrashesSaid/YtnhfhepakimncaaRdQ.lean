-- written by this session's own program (wip/tools/myprint.py), over the kit's print
import Derived.Test.YtnhfhepakimncaaRdr
import Derived.Test.YtnhfhepakimncaaQx0
namespace Go.Proofs.Ytnhfhepakimncaa.Q
open Go.RowKit Go.Proofs.YtnhfhepakimncaaW.PrintWords Go.Proofs.YtnhfhepakimncaaR
def g47 (b_ : S47) : Prop := ((Lit.int .i64 b_.f0).wf = true ∧ ((b_.f1).length * 1 ≤ 140737488351232 ∧ ∀ a_ ∈ b_.f1, (Lit.int .u8 a_).wf = true))
theorem rdr47 : Rdr Try.prog 47 k47 g47 :=
  Rdr.struct Try.underlying47 rfl (by kernel_rfl) (fun x : S47 => (x.f0, x.f1)) (fun y => ⟨y.1, y.2⟩) (fun _ => rfl) (RdrF.cons (o' := 1) rfl (by kernel_rfl) (Rdr.int Try.underlying3) (by kernel_rfl) (RdrF.one rfl (by kernel_rfl) (Rdr.slice (B := 1) Try.underlying26 (by kernel_rfl) (by kernel_rfl) (Rdr.int Try.underlying5))))
def g25 (b_ : S25) : Prop := (((b_.f0).length * 24 ≤ 140737488351232 ∧ ∀ a_ ∈ b_.f0, ((a_).length * 1 ≤ 140737488351232 ∧ ∀ a__ ∈ a_, (Lit.int .u8 a__).wf = true)) ∧ ((b_.f1).length * 32 ≤ 140737488351232 ∧ ∀ a_ ∈ b_.f1, g47 a_))
theorem rdr25 : Rdr Try.prog 25 k25 g25 :=
  Rdr.struct Try.underlying25 rfl (by kernel_rfl) (fun x : S25 => (x.f0, x.f1)) (fun y => ⟨y.1, y.2⟩) (fun _ => rfl) (RdrF.cons (o' := 1) rfl (by kernel_rfl) (Rdr.slice (B := 24) Try.underlying22 (by kernel_rfl) (by kernel_rfl) (Rdr.slice (B := 1) Try.underlying26 (by kernel_rfl) (by kernel_rfl) (Rdr.int Try.underlying5))) (by kernel_rfl) (RdrF.one rfl (by kernel_rfl) (Rdr.slice (B := 32) Try.underlying23 (by kernel_rfl) (by kernel_rfl) rdr47)))
def g29 (b_ : S29) : Prop := (g25 b_.f0 ∧ ((Lit.int .i64 b_.f1).wf = true ∧ (((b_.f2).length * 1 ≤ 140737488351232 ∧ ∀ a_ ∈ b_.f2, (Lit.int .u8 a_).wf = true) ∧ ((b_.f3).length * 1 ≤ 140737488351232 ∧ ∀ a_ ∈ b_.f3, True))))
theorem rdr29 : Rdr Try.prog 29 k29 g29 :=
  Rdr.struct Try.underlying29 rfl (by kernel_rfl) (fun x : S29 => (x.f0, x.f1, x.f2, x.f3)) (fun y => ⟨y.1, y.2.1, y.2.2.1, y.2.2.2⟩) (fun _ => rfl) (RdrF.cons (o' := 2) rfl (by kernel_rfl) rdr25 (by kernel_rfl) (RdrF.cons (o' := 3) rfl (by kernel_rfl) (Rdr.int Try.underlying3) (by kernel_rfl) (RdrF.cons (o' := 4) rfl (by kernel_rfl) (Rdr.slice (B := 1) Try.underlying26 (by kernel_rfl) (by kernel_rfl) (Rdr.int Try.underlying5)) (by kernel_rfl) (RdrF.one rfl (by kernel_rfl) (Rdr.slice (B := 1) Try.underlying27 (by kernel_rfl) (by kernel_rfl) (Rdr.bool Try.underlying4))))))
def g50 (b_ : S50) : Prop := (g25 b_.f0 ∧ ((Lit.int .i64 b_.f1).wf = true ∧ (((b_.f2).length * 1 ≤ 140737488351232 ∧ ∀ a_ ∈ b_.f2, (Lit.int .u8 a_).wf = true) ∧ (Lit.int .i64 b_.f3).wf = true)))
theorem rdr50 : Rdr Try.prog 50 k50 g50 :=
  Rdr.struct Try.underlying50 rfl (by kernel_rfl) (fun x : S50 => (x.f0, x.f1, x.f2, x.f3)) (fun y => ⟨y.1, y.2.1, y.2.2.1, y.2.2.2⟩) (fun _ => rfl) (RdrF.cons (o' := 2) rfl (by kernel_rfl) rdr25 (by kernel_rfl) (RdrF.cons (o' := 3) rfl (by kernel_rfl) (Rdr.int Try.underlying3) (by kernel_rfl) (RdrF.cons (o' := 4) rfl (by kernel_rfl) (Rdr.slice (B := 1) Try.underlying26 (by kernel_rfl) (by kernel_rfl) (Rdr.int Try.underlying5)) (by kernel_rfl) (RdrF.one rfl (by kernel_rfl) (Rdr.int Try.underlying3)))))
def g53 (b_ : S53) : Prop := (g25 b_.f0 ∧ ((Lit.int .i64 b_.f1).wf = true ∧ ((Lit.int .i64 b_.f2).wf = true ∧ (((b_.f3).length * 1 ≤ 140737488351232 ∧ ∀ a_ ∈ b_.f3, (Lit.int .u8 a_).wf = true) ∧ ((b_.f4).length * 1 ≤ 140737488351232 ∧ ∀ a_ ∈ b_.f4, (Lit.int .u8 a_).wf = true)))))
theorem rdr53 : Rdr Try.prog 53 k53 g53 :=
  Rdr.struct Try.underlying53 rfl (by kernel_rfl) (fun x : S53 => (x.f0, x.f1, x.f2, x.f3, x.f4)) (fun y => ⟨y.1, y.2.1, y.2.2.1, y.2.2.2.1, y.2.2.2.2⟩) (fun _ => rfl) (RdrF.cons (o' := 2) rfl (by kernel_rfl) rdr25 (by kernel_rfl) (RdrF.cons (o' := 3) rfl (by kernel_rfl) (Rdr.int Try.underlying3) (by kernel_rfl) (RdrF.cons (o' := 4) rfl (by kernel_rfl) (Rdr.int Try.underlying3) (by kernel_rfl) (RdrF.cons (o' := 5) rfl (by kernel_rfl) (Rdr.slice (B := 1) Try.underlying26 (by kernel_rfl) (by kernel_rfl) (Rdr.int Try.underlying5)) (by kernel_rfl) (RdrF.one rfl (by kernel_rfl) (Rdr.slice (B := 1) Try.underlying26 (by kernel_rfl) (by kernel_rfl) (Rdr.int Try.underlying5)))))))
end Go.Proofs.Ytnhfhepakimncaa.Q

-- written by this session's own program (wip/tools/myprint.py), over the kit's print
import Derived.Test.YtfnmlhcpolfjaaaRdr
import Derived.Test.YtfnmlhcpolfjaaaQx0
namespace Go.Proofs.Ytfnmlhcpolfjaaa.Q
open Go.RowKit Go.Proofs.YtfnmlhcpolfjaaaW.PrintWords Go.Proofs.YtfnmlhcpolfjaaaR
def g38 (b_ : S38) : Prop := ((Lit.int .u16 b_.f0).wf = true ∧ ((Lit.int .u16 b_.f1).wf = true ∧ (((b_.f2).length * 1 ≤ 140737488351232 ∧ ∀ a_ ∈ b_.f2, (Lit.int .u8 a_).wf = true) ∧ ((b_.f3).length * 1 ≤ 140737488351232 ∧ ∀ a_ ∈ b_.f3, (Lit.int .u8 a_).wf = true))))
theorem rdr38 : Rdr Try.prog 38 k38 g38 :=
  Rdr.struct Try.underlying38 rfl (by kernel_rfl) (fun x : S38 => (x.f0, x.f1, x.f2, x.f3)) (fun y => ⟨y.1, y.2.1, y.2.2.1, y.2.2.2⟩) (fun _ => rfl) (RdrF.cons (o' := 1) rfl (by kernel_rfl) (Rdr.int Try.underlying22) (by kernel_rfl) (RdrF.cons (o' := 2) rfl (by kernel_rfl) (Rdr.int Try.underlying22) (by kernel_rfl) (RdrF.cons (o' := 3) rfl (by kernel_rfl) (Rdr.slice (B := 1) Try.underlying23 (by kernel_rfl) (by kernel_rfl) (Rdr.int Try.underlying5)) (by kernel_rfl) (RdrF.one rfl (by kernel_rfl) (Rdr.slice (B := 1) Try.underlying23 (by kernel_rfl) (by kernel_rfl) (Rdr.int Try.underlying5))))))
def g41 (b_ : S41) : Prop := ((Lit.int .u8 b_.f0).wf = true ∧ (Lit.int .u8 b_.f1).wf = true)
-- an array of 2 as a struct
theorem rdr41 : Rdr Try.prog 41 k41 g41 := Rdr.arrs Try.underlying41 (by kernel_rfl) (fun x : S41 => (x.f0, x.f1)) (fun y => ⟨y.1, y.2⟩) (fun _ => rfl) (RdrA.cons (by kernel_rfl) (Rdr.int Try.underlying5) (RdrA.one (by kernel_rfl) (Rdr.int Try.underlying5)))
end Go.Proofs.Ytfnmlhcpolfjaaa.Q

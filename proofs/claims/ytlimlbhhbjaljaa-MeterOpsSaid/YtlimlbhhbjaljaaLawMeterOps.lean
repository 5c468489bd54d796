-- written by this session's own program (wip/tools/myprint.py), over the kit's print
import Derived.Test.YtlimlbhhbjaljaaRows
import Derived.Test.YtlimlbhhbjaljaaQx24
import Derived.Test.YtlimlbhhbjaljaaRdQ
import Derived.Test.YtlimlbhhbjaljaaPureMeterOps
import Derived.WalkKit
import Derived.ProofKit
import Derived.OpenShut
import Derived.ShutString
import Derived.ChangeOld
import Derived.Below
import Derived.SizedLaws
namespace Go.Proofs.Ytlimlbhhbjaljaa.meterOps
open Go.ChangeShapes Go.WideShapes Go.ChangeAt Go.RowKit Go.Proofs.YtlimlbhhbjaljaaR Go.Proofs.Ytlimlbhhbjaljaa.Q Go.Proofs.YtlimlbhhbjaljaaW.PrintWords Go.Proofs.YtlimlbhhbjaljaaW.PrintLast
open Go.ChangeMaps (open_string shut_string)
set_option linter.unusedVariables false
theorem own : ownKnob Try.prog.godebug = none := by kernel_rfl
theorem laidOut : laidOutB Try.prog = true := by kernel_rfl
set_option maxRecDepth 100000 in
theorem lifted (os : Os) (started : os.Started) (H : Type) (enc : TypeId × Value → H) :
    ReturnsInHanded {} Try.checked os 5 .any (Rows.meterOpsSpec.pre6 enc Try.prog Try.f5 Rows.meterOpsRow.domain false) (Rows.meterOpsSpec.post enc Try.prog Try.f5 false true false false) := by
  refine returnsInHanded_of_change_sized (C := Try.checked) own started (by kernel_rfl) Try.func5
    (ChangeSpec.witness6 (enc := enc) (C := Try.checked) false ⟨#[], #[(.agg #[(.int .i64 0), (.slice none 0 0), (.slice none 0 0), (.slice none 0 0), (.int .i64 0), (.int .i64 0), (.int .i64 0), (.int .u8 0)])], []⟩ 8 (by kernel_rfl) (by kernel_rfl) (by kernel_rfl) (by kernel_rfl)) ?_
  intro W base args ds gs before hval0 hW hcnd hsz0 _
  have hsz : (DataW.weightsEach Try.prog (Try.f5.params.toList ++ Rows.meterOpsSpec.plain.varTypes Try.prog) (ds ++ gs)).all (· ≤ reachBytes) = true := hsz0
  have hval : ∀ (j : Nat) t v, Try.f5.params[j]? = some t → args[j]? = some v → Value.okWide Try.prog W .any base t v := hval0
  have hW' := hW
  obtain ⟨p, q, hA0, hV, rfl, hfz, hnd⟩ := hW
  have hA : DataW.TrodAll enc Try.prog W 0 (fun _ => true) true Try.f5.params.toList args.toList ds p := hA0
  rw [Try.params5] at hA hval hsz
  obtain ⟨v0, vs0, d0, ds0, p0, q0, hargs, rfl, rfl, h0, r0⟩ := trodAll_cons hA
  obtain ⟨rfl, rfl, rfl⟩ := trodAll_nil r0
  obtain rfl : args = #[v0] := by cases args; simp_all
  obtain ⟨rfl, rfl⟩ := trodVars_none hV
  have kk0 := h0
  have lt0 : ∀ x ∈ p0, x.block < W.heap.size := by obtain ⟨m, hm⟩ := kk0; exact DataW.trod_lt m _ _ _ hm
  obtain ⟨cs0, x0, rfl, hK0, hG0⟩ := arg_agg Try.underlying48 rdr48 (hval 0 48 v0 rfl rfl) h0 (arg_weights hsz (j := 0) (t := 48) rfl rfl)
  obtain ⟨A0_1, c0_1, A0_2, c0_2, A0_3, c0_3, he0, lc0_1, rc0_1, lc0_2, rc0_2, lc0_3, rc0_3⟩ := k48_open hK0
  obtain rfl := toList_arr he0
  obtain ⟨k, hp⟩ := Pure.MeterOps x0.f0.f0 x0.f0.f1 x0.f0.f2 x0.f0.f3 x0.f1 x0.f2 x0.f3 x0.f4 hG0.1.1 hG0.1.2.1 hG0.1.2.2.1 hG0.1.2.2.2 hG0.2.1 hG0.2.2.1 hG0.2.2.2.1 hG0.2.2.2.2
  refine (Q.portreevelaw17_MeterOps.calls k x0.f0.f0 _ _ x0.f0.f1 _ _ x0.f0.f2 _ _ x0.f0.f3 x0.f1 x0.f2 x0.f3 x0.f4 true W ⟨rfl⟩ rc0_1 lc0_1 rc0_2 lc0_2 rc0_3 lc0_3 hp).mono fun e W' hpost => ?_
  obtain ⟨he, bel0⟩ := hpost
  have bel : Below W.heap.size W W' := bel0
  subst he
  exact ⟨_, rfl, _, _, _, [], _, [], hW', trodAll_mk1 (shut_bool Try.underlying4 _), (trodAll_cons_mk (Below.trod laidOut (by kernel_rfl) (of_decide_eq_true (by kernel_rfl)) kk0 bel lt0) trodAll_mk0), rfl, bel.frame _, fun h => by cases h⟩
theorem over : Rows.meterOpsRow.holds Try.pinned (OpenSpec.ofChange Rows.meterOpsSpec) :=
  OpenClaim.holds_of_wide 5 Try.f5 rfl rfl rfl rfl rfl rfl rfl ⟨rfl, rfl, rfl, rfl, rfl⟩ rfl rfl rfl rfl rfl (by kernel_rfl) Try.func5 (by kernel_rfl)
    (of_decide_eq_true (by kernel_rfl)) (by unfold Func.isWrapper; first | (rw [if_pos (by decide +kernel)]; kernel_rfl) | (rw [if_neg (by decide +kernel)]; exact ⟨rfl, rfl⟩))
    (fun os started H enc _ => lifted os started H enc)
theorem proved : Rows.MeterOpsSaid := over
#print axioms proved
end Go.Proofs.Ytlimlbhhbjaljaa.meterOps
namespace Go.Proofs.Ytlimlbhhbjaljaa
/-- The row, under a short name, for the claim. -/
theorem meterOps_holds : Rows.MeterOpsSaid := meterOps.proved
end Go.Proofs.Ytlimlbhhbjaljaa

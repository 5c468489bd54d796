-- written by this session's own program (wip/tools/myprint.py), over the kit's print
import Derived.Test.YtnhfhepakimncaaRows
import Derived.Test.YtnhfhepakimncaaQx15
import Derived.Test.YtnhfhepakimncaaRdQ
import Derived.Test.YtnhfhepakimncaaPureDiskCrashes
import Derived.WalkKit
import Derived.ProofKit
import Derived.OpenShut
import Derived.ShutString
import Derived.ChangeOld
import Derived.Below
import Derived.SizedLaws
namespace Go.Proofs.Ytnhfhepakimncaa.diskCrashes
open Go.ChangeShapes Go.WideShapes Go.ChangeAt Go.RowKit Go.Proofs.YtnhfhepakimncaaR Go.Proofs.Ytnhfhepakimncaa.Q Go.Proofs.YtnhfhepakimncaaW.PrintWords Go.Proofs.YtnhfhepakimncaaW.PrintLast
open Go.ChangeMaps (open_string shut_string)
set_option linter.unusedVariables false
theorem own : ownKnob Try.prog.godebug = none := by kernel_rfl
theorem laidOut : laidOutB Try.prog = true := by kernel_rfl
set_option maxRecDepth 100000 in
theorem lifted (os : Os) (started : os.Started) (H : Type) (enc : TypeId × Value → H) :
    ReturnsInHanded {} Try.checked os 4 .any (Rows.diskCrashesSpec.pre6 enc Try.prog Try.f4 Rows.diskCrashesRow.domain false) (Rows.diskCrashesSpec.post enc Try.prog Try.f4 false true false false) := by
  refine returnsInHanded_of_change_sized (C := Try.checked) own started (by kernel_rfl) Try.func4
    (ChangeSpec.witness6 (enc := enc) (C := Try.checked) false ⟨#[], #[(.agg #[(.slice none 0 0), (.slice none 0 0)]), .int .i64 0, .slice none 0 0], []⟩ 8 (by kernel_rfl) (by kernel_rfl) (by kernel_rfl) (by kernel_rfl)) ?_
  intro W base args ds gs before hval0 hW hcnd hsz0 _
  have hsz : (DataW.weightsEach Try.prog (Try.f4.params.toList ++ Rows.diskCrashesSpec.plain.varTypes Try.prog) (ds ++ gs)).all (· ≤ reachBytes) = true := hsz0
  have hval : ∀ (j : Nat) t v, Try.f4.params[j]? = some t → args[j]? = some v → Value.okWide Try.prog W .any base t v := hval0
  have hW' := hW
  obtain ⟨p, q, hA0, hV, rfl, hfz, hnd⟩ := hW
  have hA : DataW.TrodAll enc Try.prog W 0 (fun _ => true) true Try.f4.params.toList args.toList ds p := hA0
  rw [Try.params4] at hA hval hsz
  obtain ⟨v0, vs0, d0, ds0, p0, q0, hargs, rfl, rfl, h0, r0⟩ := trodAll_cons hA
  obtain ⟨v1, vs1, d1, ds1, p1, q1, rfl, rfl, rfl, h1, r1⟩ := trodAll_cons r0
  obtain ⟨v2, vs2, d2, ds2, p2, q2, rfl, rfl, rfl, h2, r2⟩ := trodAll_cons r1
  obtain ⟨rfl, rfl, rfl⟩ := trodAll_nil r2
  obtain rfl : args = #[v0, v1, v2] := by cases args; simp_all
  obtain ⟨rfl, rfl⟩ := trodVars_none hV
  have kk0 := h0
  have lt0 : ∀ x ∈ p0, x.block < W.heap.size := by obtain ⟨m, hm⟩ := kk0; exact DataW.trod_lt m _ _ _ hm
  obtain ⟨cs0, x0, rfl, hK0, hG0⟩ := arg_agg Try.underlying25 rdr25 (hval 0 25 v0 rfl rfl) h0 (arg_weights hsz (j := 0) (t := 25) rfl rfl)
  obtain ⟨A0_0, c0_0, A0_1, c0_1, he0, lc0_0, rc0_0, lc0_1, rc0_1⟩ := k25_open hK0
  obtain rfl := toList_arr he0
  obtain ⟨a1, rfl, rfl, rfl, w1⟩ := open_int Try.underlying3 (hval 1 3 v1 rfl rfl) h1
  have kk2 := h2
  have lt2 : ∀ x ∈ p2, x.block < W.heap.size := by obtain ⟨m, hm⟩ := kk2; exact DataW.trod_lt m _ _ _ hm
  obtain ⟨A2, c2, l2, rfl, lc2, rc2, hG2⟩ := arg_slice Try.underlying27 (Rdr.slice (B := 1) Try.underlying27 (by kernel_rfl) (by kernel_rfl) (Rdr.bool Try.underlying4)) (hval 2 27 v2 rfl rfl) h2 (arg_weights hsz (j := 2) (t := 27) rfl rfl)
  obtain ⟨k, hp⟩ := Pure.DiskCrashes x0.f0 x0.f1 a1 l2 hG0.1 hG0.2 w1 hG2
  refine (Q.portreevelaw03_DiskCrashes.calls k (fun k_ => k_ < W.heap.size) _ _ x0.f0 (fun k_ => k_ < W.heap.size) _ _ x0.f1 a1 _ _ l2 true W ⟨rfl⟩ (Kd.V_mk lc0_0 (Kd.C_F (Kd.heap_slice 5 (Kd.heap_int .u8)) rc0_0)) (Kd.V_mk lc0_1 (Kd.C_F k47_heap rc0_1)) rc2 lc2 hp).mono fun e W' hpost => ?_
  obtain ⟨he, bel0⟩ := hpost
  have bel : Below W.heap.size W W' := bel0
  subst he
  exact ⟨_, rfl, _, _, _, [], _, [], hW', trodAll_mk1 (shut_bool Try.underlying4 _), (trodAll_cons_mk (Below.trod laidOut (by kernel_rfl) (of_decide_eq_true (by kernel_rfl)) kk0 bel lt0) (trodAll_cons_mk (shut_int Try.underlying3 w1) (trodAll_cons_mk (Below.trod laidOut (by kernel_rfl) (of_decide_eq_true (by kernel_rfl)) kk2 bel lt2) trodAll_mk0))), rfl, bel.frame _, fun h => by cases h⟩
theorem over : Rows.diskCrashesRow.holds Try.pinned (OpenSpec.ofChange Rows.diskCrashesSpec) :=
  OpenClaim.holds_of_wide 4 Try.f4 rfl rfl rfl rfl rfl rfl rfl ⟨rfl, rfl, rfl, rfl, rfl⟩ rfl rfl rfl rfl rfl (by kernel_rfl) Try.func4 (by kernel_rfl)
    (of_decide_eq_true (by kernel_rfl)) (by unfold Func.isWrapper; first | (rw [if_pos (by decide +kernel)]; kernel_rfl) | (rw [if_neg (by decide +kernel)]; exact ⟨rfl, rfl⟩))
    (fun os started H enc _ => lifted os started H enc)
theorem proved : Rows.DiskCrashesSaid := over
#print axioms proved
end Go.Proofs.Ytnhfhepakimncaa.diskCrashes
namespace Go.Proofs.Ytnhfhepakimncaa
/-- The row, under a short name, for the claim. -/
theorem diskCrashes_holds : Rows.DiskCrashesSaid := diskCrashes.proved
end Go.Proofs.Ytnhfhepakimncaa

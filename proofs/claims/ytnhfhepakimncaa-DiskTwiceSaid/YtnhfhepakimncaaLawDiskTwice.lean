-- written by this session's own program (wip/tools/myprint.py), over the kit's print
import Derived.Test.YtnhfhepakimncaaRows
import Derived.Test.YtnhfhepakimncaaQx18
import Derived.Test.YtnhfhepakimncaaRdQ
import Derived.Test.YtnhfhepakimncaaPureDiskTwice
import Derived.WalkKit
import Derived.ProofKit
import Derived.OpenShut
import Derived.ShutString
import Derived.ChangeOld
import Derived.Below
import Derived.SizedLaws
namespace Go.Proofs.Ytnhfhepakimncaa.diskTwice
open Go.ChangeShapes Go.WideShapes Go.ChangeAt Go.RowKit Go.Proofs.YtnhfhepakimncaaR Go.Proofs.Ytnhfhepakimncaa.Q Go.Proofs.YtnhfhepakimncaaW.PrintWords Go.Proofs.YtnhfhepakimncaaW.PrintLast
open Go.ChangeMaps (open_string shut_string)
set_option linter.unusedVariables false
theorem own : ownKnob Try.prog.godebug = none := by kernel_rfl
theorem laidOut : laidOutB Try.prog = true := by kernel_rfl
set_option maxRecDepth 100000 in
theorem lifted (os : Os) (started : os.Started) (H : Type) (enc : TypeId × Value → H) :
    ReturnsInHanded {} Try.checked os 7 .any (Rows.diskTwiceSpec.pre6 enc Try.prog Try.f7 Rows.diskTwiceRow.domain false) (Rows.diskTwiceSpec.post enc Try.prog Try.f7 false true false false) := by
  refine returnsInHanded_of_change_sized (C := Try.checked) own started (by kernel_rfl) Try.func7
    (ChangeSpec.witness6 (enc := enc) (C := Try.checked) false ⟨#[], #[(.agg #[(.slice none 0 0), (.slice none 0 0)]), .slice none 0 0, .slice none 0 0], []⟩ 8 (by kernel_rfl) (by kernel_rfl) (by kernel_rfl) (by kernel_rfl)) ?_
  intro W base args ds gs before hval0 hW hcnd hsz0 _
  have hsz : (DataW.weightsEach Try.prog (Try.f7.params.toList ++ Rows.diskTwiceSpec.plain.varTypes Try.prog) (ds ++ gs)).all (· ≤ reachBytes) = true := hsz0
  have hval : ∀ (j : Nat) t v, Try.f7.params[j]? = some t → args[j]? = some v → Value.okWide Try.prog W .any base t v := hval0
  have hW' := hW
  obtain ⟨p, q, hA0, hV, rfl, hfz, hnd⟩ := hW
  have hA : DataW.TrodAll enc Try.prog W 0 (fun _ => true) true Try.f7.params.toList args.toList ds p := hA0
  rw [Try.params7] at hA hval hsz
  obtain ⟨v0, vs0, d0, ds0, p0, q0, hargs, rfl, rfl, h0, r0⟩ := trodAll_cons hA
  obtain ⟨v1, vs1, d1, ds1, p1, q1, rfl, rfl, rfl, h1, r1⟩ := trodAll_cons r0
  obtain ⟨v2, vs2, d2, ds2, p2, q2, rfl, rfl, rfl, h2, r2⟩ := trodAll_cons r1
  obtain ⟨rfl, rfl, rfl⟩ := trodAll_nil r2
  obtain rfl : args = #[v0, v1, v2] := by cases args; simp_all
  obtain ⟨rfl, rfl⟩ := trodVars_none hV
  have kk0 := h0
  have lt0 : ∀ x ∈ p0, x.block < W.heap.size := by obtain ⟨m, hm⟩ := kk0; exact DataW.trod_lt m _ _ _ hm
  obtain ⟨cs0, x0, rfl, hK0, hG0⟩ := arg_agg Try.underlying25 rdr25 (hval 0 25 v0 rfl rfl) h0 (arg_weights hsz (j := 0) (t := 25) rfl rfl)
  obtain ⟨A0_0, c0_0, A0_1, c0_1, he0, lc0_0, rc0_0, lc0_1, rc0_1⟩ := k25_open hK0
  obtain rfl := toList_arr he0
  have kk1 := h1
  have lt1 : ∀ x ∈ p1, x.block < W.heap.size := by obtain ⟨m, hm⟩ := kk1; exact DataW.trod_lt m _ _ _ hm
  obtain ⟨A1, c1, l1, rfl, lc1, rc1, hG1⟩ := arg_slice Try.underlying27 (Rdr.slice (B := 1) Try.underlying27 (by kernel_rfl) (by kernel_rfl) (Rdr.bool Try.underlying4)) (hval 1 27 v1 rfl rfl) h1 (arg_weights hsz (j := 1) (t := 27) rfl rfl)
  have kk2 := h2
  have lt2 : ∀ x ∈ p2, x.block < W.heap.size := by obtain ⟨m, hm⟩ := kk2; exact DataW.trod_lt m _ _ _ hm
  obtain ⟨A2, c2, l2, rfl, lc2, rc2, hG2⟩ := arg_slice Try.underlying27 (Rdr.slice (B := 1) Try.underlying27 (by kernel_rfl) (by kernel_rfl) (Rdr.bool Try.underlying4)) (hval 2 27 v2 rfl rfl) h2 (arg_weights hsz (j := 2) (t := 27) rfl rfl)
  obtain ⟨k, hp⟩ := Pure.DiskTwice x0.f0 x0.f1 l1 l2 hG0.1 hG0.2 hG1 hG2
  refine (Q.portreevelaw03_DiskTwice.calls k _ _ x0.f0 _ _ x0.f1 _ _ l1 _ _ l2 true W ⟨rfl⟩ rc0_0 lc0_0 rc0_1 lc0_1 rc1 lc1 rc2 lc2 hp).mono fun e W' hpost => ?_
  obtain ⟨he, bel0⟩ := hpost
  have bel : Below W.heap.size W W' := bel0
  subst he
  exact ⟨_, rfl, _, _, _, [], _, [], hW', trodAll_mk1 (shut_bool Try.underlying4 _), (trodAll_cons_mk (Below.trod laidOut (by kernel_rfl) (of_decide_eq_true (by kernel_rfl)) kk0 bel lt0) (trodAll_cons_mk (Below.trod laidOut (by kernel_rfl) (of_decide_eq_true (by kernel_rfl)) kk1 bel lt1) (trodAll_cons_mk (Below.trod laidOut (by kernel_rfl) (of_decide_eq_true (by kernel_rfl)) kk2 bel lt2) trodAll_mk0))), rfl, bel.frame _, fun h => by cases h⟩
theorem over : Rows.diskTwiceRow.holds Try.pinned (OpenSpec.ofChange Rows.diskTwiceSpec) :=
  OpenClaim.holds_of_wide 7 Try.f7 rfl rfl rfl rfl rfl rfl rfl ⟨rfl, rfl, rfl, rfl, rfl⟩ rfl rfl rfl rfl rfl (by kernel_rfl) Try.func7 (by kernel_rfl)
    (of_decide_eq_true (by kernel_rfl)) (by unfold Func.isWrapper; first | (rw [if_pos (by decide +kernel)]; kernel_rfl) | (rw [if_neg (by decide +kernel)]; exact ⟨rfl, rfl⟩))
    (fun os started H enc _ => lifted os started H enc)
theorem proved : Rows.DiskTwiceSaid := over
#print axioms proved
end Go.Proofs.Ytnhfhepakimncaa.diskTwice
namespace Go.Proofs.Ytnhfhepakimncaa
/-- The row, under a short name, for the claim. -/
theorem diskTwice_holds : Rows.DiskTwiceSaid := diskTwice.proved
end Go.Proofs.Ytnhfhepakimncaa

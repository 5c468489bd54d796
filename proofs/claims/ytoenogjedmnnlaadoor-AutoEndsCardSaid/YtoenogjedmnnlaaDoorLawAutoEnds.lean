-- written by this session's own program (wip/tools/myprint.py), over the kit's print
import Derived.Test.YtoenogjedmnnlaaDoorRows
import Derived.Test.YtoenogjedmnnlaaDoorQx15
import Derived.Test.YtoenogjedmnnlaaDoorRdQ
import Derived.Test.YtoenogjedmnnlaaDoorPureAutoEnds
import Derived.Test.YtoenogjedmnnlaaDoorLaid
import Derived.Test.YtoenogjedmnnlaaDoorCards
import Derived.Test.YtoenogjedmnnlaaDoorTie
import Derived.SevenTiedAt
import Derived.WalkKit
import Derived.ProofKit
import Derived.OpenShut
import Derived.ShutString
import Derived.ChangeOld
import Derived.Below
import Derived.SizedLaws
namespace Go.Proofs.YtoenogjedmnnlaaDoor.autoEnds
open Go.ChangeShapes Go.WideShapes Go.ChangeAt Go.RowKit Go.Proofs.YtoenogjedmnnlaaDoorR Go.Proofs.YtoenogjedmnnlaaDoor.Q Go.Proofs.YtoenogjedmnnlaaDoorW.PrintWords Go.Proofs.YtoenogjedmnnlaaDoorW.PrintLast
open Go.ChangeMaps (open_string shut_string)
set_option linter.unusedVariables false
theorem own : ownKnob Tryd.prog.godebug = none := by kernel_rfl
theorem laidOut : laidOutB Tryd.prog = true := by kernel_rfl
set_option maxRecDepth 100000 in
theorem lifted (os : Os) (started : os.Started) (H : Type) (enc : TypeId × Value → H) :
    ReturnsInHanded {} Tryd.checked os 5 .any (fun w args => (Rows.autoEndsSpec.pre enc Tryd.prog Tryd.f5 [] false w args ∧ laidMetH Tryd.prog YtoenogjedmnnlaaDoorL.laid2 w) ∧ sizedMet enc Tryd.prog Tryd.f5 (OpenSpec.ofChange Rows.autoEndsSpec) false w args) (Rows.autoEndsSpec.post enc Tryd.prog Tryd.f5 false true false false) := by
  refine returnsInHanded_of_change_and (C := Tryd.checked) (X := fun w _ => laidMetH Tryd.prog YtoenogjedmnnlaaDoorL.laid2 w) (fun _ _ _ hh h => h.of_heap hh) own started (by kernel_rfl) Tryd.func5
    (ChangeSpec.witness_shaped (enc := enc) (C := Tryd.checked) (os := os) (X := fun w _ => laidMetH Tryd.prog YtoenogjedmnnlaaDoorL.laid2 w) false (World.doorLaid Tryd.prog 400 os) #[(.agg #[(.int .i64 0), (.int .i64 0), (.int .i64 0), (.int .u8 0)]), .int .i64 0] 8 rfl (World.shaped_of_RefB (by kernel_rfl) (by kernel_rfl)) (by kernel_rfl) (by kernel_rfl) (by kernel_rfl) (YtoenogjedmnnlaaDoorL.door_met os _)) ?_
  intro W base args ds gs before hval0 hW hcnd hsz0 hL _
  have hsz : (DataW.weightsEach Tryd.prog (Tryd.f5.params.toList ++ Rows.autoEndsSpec.plain.varTypes Tryd.prog) (ds ++ gs)).all (· ≤ reachBytes) = true := hsz0
  have hval : ∀ (j : Nat) t v, Tryd.f5.params[j]? = some t → args[j]? = some v → Value.okWide Tryd.prog W .any base t v := hval0
  have hW' := hW
  obtain ⟨p, q, hA0, hV, rfl, hfz, hnd⟩ := hW
  have hA : DataW.TrodAll enc Tryd.prog W 0 (fun _ => true) true Tryd.f5.params.toList args.toList ds p := hA0
  rw [Tryd.params5] at hA hval hsz
  obtain ⟨v0, vs0, d0, ds0, p0, q0, hargs, rfl, rfl, h0, r0⟩ := trodAll_cons hA
  obtain ⟨v1, vs1, d1, ds1, p1, q1, rfl, rfl, rfl, h1, r1⟩ := trodAll_cons r0
  obtain ⟨rfl, rfl, rfl⟩ := trodAll_nil r1
  obtain rfl : args = #[v0, v1] := by cases args; simp_all
  obtain ⟨rfl, rfl⟩ := trodVars_none hV
  have kk0 := h0
  have lt0 : ∀ x ∈ p0, x.block < W.heap.size := by obtain ⟨m, hm⟩ := kk0; exact DataW.trod_lt m _ _ _ hm
  obtain ⟨cs0, x0, rfl, hK0, hG0⟩ := arg_agg Tryd.underlying23 rdr23 (hval 0 23 v0 rfl rfl) h0 (arg_weights hsz (j := 0) (t := 23) rfl rfl)
  have he0 := k23_open hK0
  obtain rfl := toList_arr he0
  obtain ⟨a1, rfl, rfl, rfl, w1⟩ := open_int Tryd.underlying3 (hval 1 3 v1 rfl rfl) h1
  obtain ⟨k, hp⟩ := Pure.AutoEnds x0.f0 x0.f1 x0.f2 x0.f3 a1 hG0.1 hG0.2.1 hG0.2.2.1 hG0.2.2.2 w1
  refine (Q.portreevelaw12_AutoEnds.calls k x0.f0 x0.f1 x0.f2 x0.f3 a1 true W ⟨rfl⟩  (YtoenogjedmnnlaaDoorL.of_laid hL) hp).mono fun e W' hpost => ?_
  obtain ⟨he, bel0⟩ := hpost
  have bel : Below W.heap.size W W' := bel0
  subst he
  exact ⟨_, rfl, _, _, _, [], _, [], hW', trodAll_mk1 (shut_bool Tryd.underlying4 _), (trodAll_cons_mk (Below.trod laidOut (by kernel_rfl) (of_decide_eq_true (by kernel_rfl)) kk0 bel lt0) (trodAll_cons_mk (shut_int Tryd.underlying3 w1) trodAll_mk0)), rfl, bel.frame _, fun h => by cases h⟩
theorem over : Rows.autoEndsRow.holds Tryd.pinned (OpenSpec.ofChange Rows.autoEndsSpec) :=
  OpenClaim.holds_of_wide 5 Tryd.f5 rfl rfl rfl rfl rfl rfl rfl ⟨rfl, rfl, rfl, rfl, rfl⟩ rfl rfl rfl rfl rfl (by kernel_rfl) Tryd.func5 (by kernel_rfl)
    (of_decide_eq_true (by kernel_rfl)) (by unfold Func.isWrapper; first | (rw [if_pos (by decide +kernel)]; kernel_rfl) | (rw [if_neg (by decide +kernel)]; exact ⟨rfl, rfl⟩))
    (fun os started H enc _ => lifted os started H enc)
theorem proved : Rows.AutoEndsSaid := over
#print axioms proved
end Go.Proofs.YtoenogjedmnnlaaDoor.autoEnds
namespace Go.Proofs.YtoenogjedmnnlaaDoor
theorem autoEnds_bare : Rows.AutoEndsSaid := autoEnds.proved
/-- The tied card, for the claim. -/
theorem autoEnds_holds : Rows.AutoEndsCardSaid :=
  Claim7.holds_tied_plain_at .later [] Rows.autoEndsCard.laidKinds true Rows.autoEndsCard.stood.harness false
    autoEnds_bare (fun _ h => by cases h) (by kernel_rfl) (fun _ h => by cases h) autoEnds_row_tie rfl ⟨rfl, rfl⟩ (by kernel_rfl) rfl
    (fun f fn hf hfn => by
      obtain rfl : f = 5 := Option.some.inj ((show Tryd.prog.funcNamed Rows.autoEndsRow.func = some 5 by kernel_rfl).symm.trans hf) |>.symm
      obtain rfl : fn = Tryd.f5 := (Option.some.inj (Tryd.func5.symm.trans hfn)).symm
      exact ⟨by kernel_rfl, fun j t ht => by
        rw [Tryd.params5] at ht
        have hm : t ∈ [23, 3] := by simpa using Array.mem_of_getElem? ht
        have hall : ([23, 3].all fun u => !Tryd.prog.wantsStandIn u) = true := by kernel_rfl
        exact (show Tryd.prog.wantsStandIn t = false by simpa using List.all_eq_true.1 hall t hm)⟩)
    (by kernel_rfl)
#print axioms autoEnds_holds
end Go.Proofs.YtoenogjedmnnlaaDoor

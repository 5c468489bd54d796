-- written by this session's own program (wip/tools/myprint.py), over the kit's print
import Derived.Test.YtocjadhpaecpaaaQx0
import Derived.Test.YtocjadhpaecpaaaQx6
import Derived.Test.YtocjadhpaecpaaaQx7
import Derived.Test.YtocjadhpaecpaaaQx10
import Derived.Test.YtocjadhpaecpaaaQx11
import Derived.Test.YtocjadhpaecpaaaQx18
import Derived.Test.YtocjadhpaecpaaaQx24
namespace Go.Proofs.Ytocjadhpaecpaaa.Q
open Go.RowKit Go.Proofs.YtocjadhpaecpaaaW.PrintWords Go.Proofs.YtocjadhpaecpaaaW.PrintLast Go.Proofs.YtocjadhpaecpaaaW.PrintMore
open Go.Proofs.YtocjadhpaecpaaaV
attribute [local go_sem] max2_int min2_int max_two min_two max_three min_three max_four min_four   -- for this text's walks alone
set_option linter.unusedVariables false
set_option linter.unusedSimpArgs false

/-! ### portreevelaw16_GateOps: function 3 -/
def portreevelaw16_GateOps.f (k : Nat) (a0_0 : Int) (l0_1 : List (S76)) (l0_2 : List (S72)) (l0_3 : List (S64)) (a0_4 : ByteArray) (a0_5 : Bool) (a0_6 : Bool) (a0_7 : Int) : Option (Bool) := (portreevelaw16_shown.f k).bind fun t349 => ((portreevelaw16_may.f k a0_0 l0_1 l0_2 l0_3 a0_4 a0_7).bind fun t350 => (if t350 = true then ((gate_Verdict.f k a0_0 l0_1 l0_2 l0_3 a0_4 a0_5 a0_6 a0_7).bind fun bt351 => ((gate_Failed.f a0_0 l0_1 l0_2 l0_3 a0_4).bind fun bt355 => (if (bt351.2.length : Int) = 0 then (if t349 = true then (if bt351.1 = true then (if bt355.1 = 0 then (some true) else (some false)) else (if a0_5 = true then ((gate_Locked.f a0_0 l0_1 l0_2 l0_3 a0_4 a0_7).bind fun t357 => (some t357)) else (some true))) else (some false)) else (if 0 < (bt351.2.length : Int) then ((portreeveref04_Apply.f k a0_0 l0_1 l0_2 l0_3 ((rd_T41 bt351.2 0).f0) ((rd_T41 bt351.2 0).f1) ((rd_T41 bt351.2 0).f2) ((rd_T41 bt351.2 0).f3) ((rd_T41 bt351.2 0).f4) ((rd_T41 bt351.2 0).f5) ((rd_T41 bt351.2 0).f6) ((rd_T41 bt351.2 0).f7) ((rd_T41 bt351.2 0).f8)).bind fun bt359 => ((gate_Failed.f bt359.1 bt359.2.1 bt359.2.2.1 bt359.2.2.2.1 a0_4).bind fun bt371 => (if bt359.2.2.2.2 = 0 then (if t349 = true then (if (bt351.2.length : Int) = 1 then (if (bt351.1 == a0_6) = true then (if bt351.1 = true then (if bt371.1 = 0 then (some true) else (some false)) else (some (bt371.1 == (mn (wrap64 (bt355.1 + 1)) 255)))) else (some false)) else (some false)) else (some false)) else (if t349 = true then (if (bt351.2.length : Int) = 1 then (if bt351.1 = true then (some false) else (if bt355.1 = 0 then (some ((l0_3.length : Int) == 8)) else (some false))) else (some false)) else (some false))))) else (none))))) else (some t349)))
theorem portreevelaw16_GateOps.mono : ∀ a0 a1 a2 a3 a4 a5 a6 a7 k, LeO (portreevelaw16_GateOps.f k a0 a1 a2 a3 a4 a5 a6 a7) (portreevelaw16_GateOps.f (k + 1) a0 a1 a2 a3 a4 a5 a6 a7) := by
 intro a0 a1 a2 a3 a4 a5 a6 a7 k
 unfold portreevelaw16_GateOps.f
 repeat' first
   | (with_reducible exact gate_Verdict.mono _ _ _ _ _ _ _ _ _)
   | (with_reducible exact portreevelaw16_may.mono _ _ _ _ _ _ _)
   | (with_reducible exact portreevelaw16_shown.mono _)
   | (with_reducible exact portreeveref04_Apply.mono _ _ _ _ _ _ _ _ _ _ _ _ _ _)
   | (with_reducible exact LeO.refl _)
   | (with_reducible exact LeO.none _)
   | (with_reducible refine LeO.ite ?_ ?_)
   | (with_reducible refine LeO.bind ?_ (fun _ => ?_))
   | exact gate_Verdict.mono _ _ _ _ _ _ _ _ _
   | exact portreevelaw16_may.mono _ _ _ _ _ _ _
   | exact portreevelaw16_shown.mono _
   | exact portreeveref04_Apply.mono _ _ _ _ _ _ _ _ _ _ _ _ _ _
   | exact LeO.none _
   | refine LeO.ite ?_ ?_
   | refine LeO.bind ?_ (fun _ => ?_)
def portreevelaw16_GateOps.T13 : Bool × List (List Nat × List Nat) := (true, [([], []), ([], []), ([1], [1]), ([2], [2]), ([0, 3], [0, 3]), ([4], [4]), ([5], [5]), ([5], [5]), ([], []), ([8, 6, 4, 0, 1, 2, 3, 4, 5, 6, 8], [6, 8]), ([7, 9, 0, 1, 2, 3, 4, 5, 6, 7, 8, 9], [7])])
def portreevelaw16_GateOps.B13 : List Nat := [0, 0, 2, 6, 15, 31, 63, 63, 0, 383, 1023]
theorem portreevelaw16_GateOps.tab13 : rtab .any (opsOf Try.f3 13) = portreevelaw16_GateOps.T13 := by kernel_rfl
theorem portreevelaw16_GateOps.bits13 : waitsOk portreevelaw16_GateOps.T13.2 portreevelaw16_GateOps.B13 = true := by kernel_rfl
set_option maxHeartbeats 8000000 in
set_option maxRecDepth 100000 in
theorem portreevelaw16_GateOps.calls (k : Nat) (ab : Int) (aj : Option Addr) (ak : Nat) (ad : List (S76)) (al : Option Addr) (am : Nat) (af : List (S72)) (ao : Option Addr) (ap : Nat) (ae : List (S64)) (ar : ByteArray) (az : Bool) (ax : Bool) (aw : Int) (r : Bool) (w : World) (hlaw_ : Aside0 (r = true)) (hr0_1 : Kd.C k76 w aj ad.length ad) (hc0_1 : ad.length ≤ ak) (hr0_2 : Kd.C k72 w al af.length af) (hc0_2 : af.length ≤ am) (hr0_3 : Kd.C k64 w ao ae.length ae) (hc0_3 : ae.length ≤ ap) (h : portreevelaw16_GateOps.f k ab ad af ae ar az ax aw = some r) :
  Calls Try.prog 3 #[.agg #[.int .i64 ab, .slice aj ad.length ak, .slice al af.length am, .slice ao ae.length ap, .string ar, .bool az, .bool ax, .int .i64 aw]] w fun e w' => e = .returned (.bool r) ∧ Below w.heap.size w w' := by
 have hu28 := Try.underlying28
 have hu26 := Try.underlying26
 have hu41 := Try.underlying41
 have aQ := Aside0.mk hr0_1
 have HC0_1 := Aside0.mk hc0_1
 clear hr0_1 hc0_1
 have aR := Aside0.mk hr0_2
 have HC0_2 := Aside0.mk hc0_2
 clear hr0_2 hc0_2
 have aS := Aside0.mk hr0_3
 have HC0_3 := Aside0.mk hc0_3
 clear hr0_3 hc0_3
 have HB := Aside0.mk (Below.refl w.heap.size w)
 have H : ((portreevelaw16_shown.f k).bind fun aU => ((portreevelaw16_may.f k ab ad af ae ar aw).bind fun bf => (if bf = true then ((gate_Verdict.f k ab ad af ae ar az ax aw).bind fun aB => ((gate_Failed.f ab ad af ae ar).bind fun a9 => (if (aB.2.length : Int) = 0 then (if aU = true then (if aB.1 = true then (if a9.1 = 0 then (some true) else (some false)) else (if az = true then ((gate_Locked.f ab ad af ae ar aw).bind fun bb => (some bb)) else (some true))) else (some false)) else (if 0 < (aB.2.length : Int) then ((portreeveref04_Apply.f k ab ad af ae ((rd_T41 aB.2 0).f0) ((rd_T41 aB.2 0).f1) ((rd_T41 aB.2 0).f2) ((rd_T41 aB.2 0).f3) ((rd_T41 aB.2 0).f4) ((rd_T41 aB.2 0).f5) ((rd_T41 aB.2 0).f6) ((rd_T41 aB.2 0).f7) ((rd_T41 aB.2 0).f8)).bind fun aO => ((gate_Failed.f aO.1 aO.2.1 aO.2.2.1 aO.2.2.2.1 ar).bind fun aZ => (if aO.2.2.2.2 = 0 then (if aU = true then (if (aB.2.length : Int) = 1 then (if (aB.1 == ax) = true then (if aB.1 = true then (if aZ.1 = 0 then (some true) else (some false)) else (some (aZ.1 == (mn (wrap64 (a9.1 + 1)) 255)))) else (some false)) else (some false)) else (some false)) else (if aU = true then (if (aB.2.length : Int) = 1 then (if aB.1 = true then (some false) else (if a9.1 = 0 then (some ((ae.length : Int) == 8)) else (some false))) else (some false)) else (some false))))) else (none))))) else (some aU)))) = some r := h
 clear h
 replace H := Option.bind_eq_some_iff.mp H
 obtain ⟨aU, b7, H⟩ := H
 replace H : ((portreevelaw16_may.f k ab ad af ae ar aw).bind fun bf => (if bf = true then ((gate_Verdict.f k ab ad af ae ar az ax aw).bind fun aB => ((gate_Failed.f ab ad af ae ar).bind fun a9 => (if (aB.2.length : Int) = 0 then (if aU = true then (if aB.1 = true then (if a9.1 = 0 then (some true) else (some false)) else (if az = true then ((gate_Locked.f ab ad af ae ar aw).bind fun bb => (some bb)) else (some true))) else (some false)) else (if 0 < (aB.2.length : Int) then ((portreeveref04_Apply.f k ab ad af ae ((rd_T41 aB.2 0).f0) ((rd_T41 aB.2 0).f1) ((rd_T41 aB.2 0).f2) ((rd_T41 aB.2 0).f3) ((rd_T41 aB.2 0).f4) ((rd_T41 aB.2 0).f5) ((rd_T41 aB.2 0).f6) ((rd_T41 aB.2 0).f7) ((rd_T41 aB.2 0).f8)).bind fun aO => ((gate_Failed.f aO.1 aO.2.1 aO.2.2.1 aO.2.2.2.1 ar).bind fun aZ => (if aO.2.2.2.2 = 0 then (if aU = true then (if (aB.2.length : Int) = 1 then (if (aB.1 == ax) = true then (if aB.1 = true then (if aZ.1 = 0 then (some true) else (some false)) else (some (aZ.1 == (mn (wrap64 (a9.1 + 1)) 255)))) else (some false)) else (some false)) else (some false)) else (if aU = true then (if (aB.2.length : Int) = 1 then (if aB.1 = true then (some false) else (if a9.1 = 0 then (some ((ae.length : Int) == 8)) else (some false))) else (some false)) else (some false))))) else (none))))) else (some aU))) = some r := H
 have A2 := Aside0.mk b7
 clear b7
 replace H := Option.bind_eq_some_iff.mp H
 obtain ⟨bf, b8, H⟩ := H
 replace H : (if bf = true then ((gate_Verdict.f k ab ad af ae ar az ax aw).bind fun aB => ((gate_Failed.f ab ad af ae ar).bind fun a9 => (if (aB.2.length : Int) = 0 then (if aU = true then (if aB.1 = true then (if a9.1 = 0 then (some true) else (some false)) else (if az = true then ((gate_Locked.f ab ad af ae ar aw).bind fun bb => (some bb)) else (some true))) else (some false)) else (if 0 < (aB.2.length : Int) then ((portreeveref04_Apply.f k ab ad af ae ((rd_T41 aB.2 0).f0) ((rd_T41 aB.2 0).f1) ((rd_T41 aB.2 0).f2) ((rd_T41 aB.2 0).f3) ((rd_T41 aB.2 0).f4) ((rd_T41 aB.2 0).f5) ((rd_T41 aB.2 0).f6) ((rd_T41 aB.2 0).f7) ((rd_T41 aB.2 0).f8)).bind fun aO => ((gate_Failed.f aO.1 aO.2.1 aO.2.2.1 aO.2.2.2.1 ar).bind fun aZ => (if aO.2.2.2.2 = 0 then (if aU = true then (if (aB.2.length : Int) = 1 then (if (aB.1 == ax) = true then (if aB.1 = true then (if aZ.1 = 0 then (some true) else (some false)) else (some (aZ.1 == (mn (wrap64 (a9.1 + 1)) 255)))) else (some false)) else (some false)) else (some false)) else (if aU = true then (if (aB.2.length : Int) = 1 then (if aB.1 = true then (some false) else (if a9.1 = 0 then (some ((ae.length : Int) == 8)) else (some false))) else (some false)) else (some false))))) else (none))))) else (some aU)) = some r := H
 have A3 := Aside0.mk b8
 clear b8
 by_cases c4 : bf = true
 ·subst c4
  have H1 : ((gate_Verdict.f k ab ad af ae ar az ax aw).bind fun aB => ((gate_Failed.f ab ad af ae ar).bind fun a9 => (if (aB.2.length : Int) = 0 then (if aU = true then (if aB.1 = true then (if a9.1 = 0 then (some true) else (some false)) else (if az = true then ((gate_Locked.f ab ad af ae ar aw).bind fun bb => (some bb)) else (some true))) else (some false)) else (if 0 < (aB.2.length : Int) then ((portreeveref04_Apply.f k ab ad af ae ((rd_T41 aB.2 0).f0) ((rd_T41 aB.2 0).f1) ((rd_T41 aB.2 0).f2) ((rd_T41 aB.2 0).f3) ((rd_T41 aB.2 0).f4) ((rd_T41 aB.2 0).f5) ((rd_T41 aB.2 0).f6) ((rd_T41 aB.2 0).f7) ((rd_T41 aB.2 0).f8)).bind fun aO => ((gate_Failed.f aO.1 aO.2.1 aO.2.2.1 aO.2.2.2.1 ar).bind fun aZ => (if aO.2.2.2.2 = 0 then (if aU = true then (if (aB.2.length : Int) = 1 then (if (aB.1 == ax) = true then (if aB.1 = true then (if aZ.1 = 0 then (some true) else (some false)) else (some (aZ.1 == (mn (wrap64 (a9.1 + 1)) 255)))) else (some false)) else (some false)) else (some false)) else (if aU = true then (if (aB.2.length : Int) = 1 then (if aB.1 = true then (some false) else (if a9.1 = 0 then (some ((ae.length : Int) == 8)) else (some false))) else (some false)) else (some false))))) else (none))))) = some r := by rw [if_pos rfl] at H; exact H
  clear H
  have H := H1
  clear H1
  replace H := Option.bind_eq_some_iff.mp H
  obtain ⟨⟨aX, ai⟩, b9, H⟩ := H
  replace H : ((gate_Failed.f ab ad af ae ar).bind fun a9 => (if (ai.length : Int) = 0 then (if aU = true then (if aX = true then (if a9.1 = 0 then (some true) else (some false)) else (if az = true then ((gate_Locked.f ab ad af ae ar aw).bind fun bb => (some bb)) else (some true))) else (some false)) else (if 0 < (ai.length : Int) then ((portreeveref04_Apply.f k ab ad af ae ((rd_T41 ai 0).f0) ((rd_T41 ai 0).f1) ((rd_T41 ai 0).f2) ((rd_T41 ai 0).f3) ((rd_T41 ai 0).f4) ((rd_T41 ai 0).f5) ((rd_T41 ai 0).f6) ((rd_T41 ai 0).f7) ((rd_T41 ai 0).f8)).bind fun aO => ((gate_Failed.f aO.1 aO.2.1 aO.2.2.1 aO.2.2.2.1 ar).bind fun aZ => (if aO.2.2.2.2 = 0 then (if aU = true then (if (ai.length : Int) = 1 then (if (aX == ax) = true then (if aX = true then (if aZ.1 = 0 then (some true) else (some false)) else (some (aZ.1 == (mn (wrap64 (a9.1 + 1)) 255)))) else (some false)) else (some false)) else (some false)) else (if aU = true then (if (ai.length : Int) = 1 then (if aX = true then (some false) else (if a9.1 = 0 then (some ((ae.length : Int) == 8)) else (some false))) else (some false)) else (some false))))) else (none)))) = some r := H
  have A5 := Aside0.mk b9
  clear b9
  replace H := Option.bind_eq_some_iff.mp H
  obtain ⟨⟨aT, bg⟩, ca, H⟩ := H
  replace H : (if (ai.length : Int) = 0 then (if aU = true then (if aX = true then (if aT = 0 then (some true) else (some false)) else (if az = true then ((gate_Locked.f ab ad af ae ar aw).bind fun bb => (some bb)) else (some true))) else (some false)) else (if 0 < (ai.length : Int) then ((portreeveref04_Apply.f k ab ad af ae ((rd_T41 ai 0).f0) ((rd_T41 ai 0).f1) ((rd_T41 ai 0).f2) ((rd_T41 ai 0).f3) ((rd_T41 ai 0).f4) ((rd_T41 ai 0).f5) ((rd_T41 ai 0).f6) ((rd_T41 ai 0).f7) ((rd_T41 ai 0).f8)).bind fun aO => ((gate_Failed.f aO.1 aO.2.1 aO.2.2.1 aO.2.2.2.1 ar).bind fun aZ => (if aO.2.2.2.2 = 0 then (if aU = true then (if (ai.length : Int) = 1 then (if (aX == ax) = true then (if aX = true then (if aZ.1 = 0 then (some true) else (some false)) else (some (aZ.1 == (mn (wrap64 (aT + 1)) 255)))) else (some false)) else (some false)) else (some false)) else (if aU = true then (if (ai.length : Int) = 1 then (if aX = true then (some false) else (if aT = 0 then (some ((ae.length : Int) == 8)) else (some false))) else (some false)) else (some false))))) else (none))) = some r := H
  have A6 := Aside0.mk ca
  clear ca
  by_cases c7 : (ai.length : Int) = 0
  ·rw [if_pos c7] at H
   have cb : ((ai.length : Int) == 0) = true := beq_iff_eq.mpr c7
   have cc : ((ai.length : Int) != 0) = false := bne_eq_false_iff_eq.mpr c7
   clear c7
   by_cases c8 : aU = true
   ·subst c8
    have H1 : (if aX = true then (if aT = 0 then (some true) else (some false)) else (if az = true then ((gate_Locked.f ab ad af ae ar aw).bind fun bb => (some bb)) else (some true))) = some r := by rw [if_pos rfl] at H; exact H
    clear H
    have H := H1
    clear H1
    by_cases c9 : aX = true
    ·subst c9
     have H1 : (if aT = 0 then (some true) else (some false)) = some r := by rw [if_pos rfl] at H; exact H
     clear H
     have H := H1
     clear H1
     by_cases c10 : aT = 0
     ·rw [if_pos c10] at H
      have bU : (aT == 0) = true := beq_iff_eq.mpr c10
      have bV : (aT != 0) = false := bne_eq_false_iff_eq.mpr c10
      clear c10
      clear hlaw_
      obtain rfl := Option.some.inj H
      go_enter Try.func3, Try.ntmps3
      go_wp2_with (first | ((with_reducible refine gate_dst (N := 1) rfl ?_); (try (refine gate_guard (by rfl) ?_; dsimp only)); refine box_event ?hg (N := 1) ?hd (cs := #[.int .i64 ab, .slice aj ad.length ak, .slice al af.length am, .slice ao ae.length ap, .string ar, .bool az, .bool ax, .int .i64 aw]) (t := 28) ?hr ?_; (case hd => rfl); (case hg => rfl); (case hr => first | (go_simp; done) | (go_simp; rfl)); intro ah hg w11 hbox hb; have n0_ := Aside0.mk (below_step (zH HB.out) hb); have n1_ := Aside0.mk (hbox); have n2_ := Aside0.mk ((by rw [hg]; exact (below_size (zH HB.out)) : w.heap.size ≤ ah)); have n3_ := Aside0.mk ((by rw [hg]; exact (below_size (zH HB.out)) : w.heap.size ≤ ah)); clear HB; have HB := n0_; have ac := n1_; have aD := n2_; have au := n3_; clear n0_ n1_ n2_ n3_; clear hb hbox hg; obtain ⟨fm, fn, fo, fp, fq, fr, fs, ft, fu, fv, fw, fx, fy, fz, fA, fD⟩ := bk8 ac.out) | ((with_reducible refine gate_dst (N := 3) rfl ?_); (try (refine gate_guard (by rfl) ?_; dsimp only)); refine box_event ?hg (N := 3) ?hd (cs := #[.int .i64 0, .slice none 0 0, .slice none 0 0, .slice none 0 0]) (t := 26) ?hr ?_; (case hd => rfl); (case hg => rfl); (case hr => first | (go_simp; done) | (go_simp; rfl)); intro ag hg w13 hbox hb; have n0_ := Aside0.mk (blk_below (g := ah) (o := .cells #[.int .i64 ab, .slice aj ad.length ak, .slice al af.length am, .slice ao ae.length ap, .string ar, .bool az, .bool ax, .int .i64 aw] 28 (0, 0)) (zB ac.out) hb); have n1_ := Aside0.mk (below_step (by repeat (first | (with_reducible first | exact HB.out | apply pA | apply pN | apply pD | refine pS ?_ au.out) | exact HB.out)) hb); have n2_ := Aside0.mk (hbox); have n3_ := Aside0.mk ((by rw [hg]; exact (below_size (by repeat (first | (with_reducible first | exact HB.out | apply pA | apply pN | apply pD | refine pS ?_ au.out) | exact HB.out))) : w.heap.size ≤ ag)); have n4_ := Aside0.mk ((by rw [hg]; exact (below_size (by repeat (first | (with_reducible first | exact HB.out | apply pA | apply pN | apply pD | refine pS ?_ au.out) | exact HB.out))) : w.heap.size ≤ ag)); have n5_ := Aside0.mk ((by rw [hg]; exact Nat.ne_of_lt (blk_lt (g := ah) (o := .cells #[.int .i64 ab, .slice aj ad.length ak, .slice al af.length am, .slice ao ae.length ap, .string ar, .bool az, .bool ax, .int .i64 aw] 28 (0, 0)) (zB ac.out)) : ah ≠ ag)); have n6_ := Aside0.mk ((by rw [hg]; exact Nat.ne_of_gt (blk_lt (g := ah) (o := .cells #[.int .i64 ab, .slice aj ad.length ak, .slice al af.length am, .slice ao ae.length ap, .string ar, .bool az, .bool ax, .int .i64 aw] 28 (0, 0)) (zB ac.out)) : ag ≠ ah)); clear ac; clear HB; have ac := n0_; have HB := n1_; have aa := n2_; have aE := n3_; have ay := n4_; have aN := n5_; have aW := n6_; clear n0_ n1_ n2_ n3_ n4_ n5_ n6_; clear hb hbox hg; have kM := aW.out; have kN := aN.out; obtain ⟨fE, fF, fG, fH, fI, fJ, fK, fL⟩ := bk4 aa.out; obtain ⟨fM, fN, fO, fP, fQ, fS, fT, fU, fW, fX, fY, fZ, f9, ga, gb, gc⟩ := bk8 ac.out) | ((with_reducible refine gate_callee (f := 9) rfl ?_); refine goesL_ (some 27) rfl rfl Try.func9 (by kernel_rfl) rfl #[] rfl (by (try simp only [List.map_toArray, List.map_cons, List.map_nil]); first | done | rfl | (simp only [List.length_drop, List.length_take]; rfl)) ?_; (with_reducible refine (portreevelaw16_shown.calls k  true _ A2.out).mono ?_); rintro e w17 ⟨rfl, hb⟩; refine ⟨_, rfl, ?_⟩; have n0_ := Aside0.mk (blk_below (g := ah) (o := .cells #[.int .i64 ab, .slice aj ad.length ak, .slice al af.length am, .slice ao ae.length ap, .string ar, .bool az, .bool ax, .int .i64 aw] 28 (0, 0)) (fB aN.out ac.out) hb); have n1_ := Aside0.mk (blk_below (g := ag) (o := .cells #[.int .i64 ab, .slice aj ad.length ak, .slice al af.length am, .slice ao ae.length ap] 26 (0, 0)) (by (with_reducible repeat (first | refine qN ?_ _ | refine qD ?_ | refine qA ?_ _)); refine blk_put (cs := #[.int .i64 ab, .slice aj ad.length ak, .slice al af.length am, .slice none 0 0]) ?_ 3 _ rfl; (with_reducible repeat (first | refine qN ?_ _ | refine qD ?_ | refine qA ?_ _)); refine blk_put (cs := #[.int .i64 ab, .slice aj ad.length ak, .slice none 0 0, .slice none 0 0]) ?_ 2 _ rfl; (with_reducible repeat (first | refine qN ?_ _ | refine qD ?_ | refine qA ?_ _)); refine blk_put (cs := #[.int .i64 ab, .slice none 0 0, .slice none 0 0, .slice none 0 0]) ?_ 1 _ rfl; (with_reducible repeat (first | refine qN ?_ _ | refine qD ?_ | refine qA ?_ _)); refine blk_put (cs := #[.int .i64 0, .slice none 0 0, .slice none 0 0, .slice none 0 0]) ?_ 0 _ rfl; (with_reducible repeat (first | refine qN ?_ _ | refine qD ?_ | refine qA ?_ _)); exact aa.out) hb); have n2_ := Aside0.mk (below_step (by repeat (first | (with_reducible first | exact HB.out | apply pA | apply pN | apply pD | refine pS ?_ au.out | refine pS ?_ ay.out) | exact HB.out)) hb); clear ac; clear aa; clear HB; have ac := n0_; have aa := n1_; have HB := n2_; clear n0_ n1_ n2_; (try clear hb); (try clear hb2); (try clear hk); (try clear hi); obtain ⟨gd, ge, gf, gg, gh, gi, gj, gk⟩ := bk4 aa.out) | ((with_reducible refine gate_callee (f := 10) rfl ?_); refine goesL_ (some 31) rfl rfl Try.func10 (by kernel_rfl) rfl #[.agg #[.int .i64 ab, .slice aj ad.length ak, .slice al af.length am, .slice ao ae.length ap], .string ar, .int .i64 aw] rfl (by (try simp only [List.map_toArray, List.map_cons, List.map_nil]); first | done | rfl | (simp only [List.length_drop, List.length_take]; rfl)) ?_; (with_reducible refine (portreevelaw16_may.calls k ab _ _ ad _ _ af _ _ ae ar aw true _ ?side1 ?side2 ?side3 ?side4 ?side5 ?side6 A3.out).mono ?_); (case side1 => repeat (first | exact (Kd.C_below aQ.out HB.out) | (with_reducible refine Kd.C_alloc ?_ _) | (with_reducible refine Kd.C_drewN ?_ _) | (with_reducible refine Kd.C_drew ?_))); (case side2 => exact HC0_1.out); (case side3 => repeat (first | exact (Kd.C_below aR.out HB.out) | (with_reducible refine Kd.C_alloc ?_ _) | (with_reducible refine Kd.C_drewN ?_ _) | (with_reducible refine Kd.C_drew ?_))); (case side4 => exact HC0_2.out); (case side5 => repeat (first | exact (Kd.C_below aS.out HB.out) | (with_reducible refine Kd.C_alloc ?_ _) | (with_reducible refine Kd.C_drewN ?_ _) | (with_reducible refine Kd.C_drew ?_))); (case side6 => exact HC0_3.out); rintro e w19 ⟨rfl, hb⟩; refine ⟨_, rfl, ?_⟩; have n0_ := Aside0.mk (blk_below (g := ah) (o := .cells #[.int .i64 ab, .slice aj ad.length ak, .slice al af.length am, .slice ao ae.length ap, .string ar, .bool az, .bool ax, .int .i64 aw] 28 (0, 0)) (zB ac.out) hb); have n1_ := Aside0.mk (blk_below (g := ag) (o := .cells #[.int .i64 ab, .slice aj ad.length ak, .slice al af.length am, .slice ao ae.length ap] 26 (0, 0)) (zB aa.out) hb); have n2_ := Aside0.mk (below_step (by repeat (first | (with_reducible first | exact HB.out | apply pA | apply pN | apply pD | refine pS ?_ au.out | refine pS ?_ ay.out) | exact HB.out)) hb); clear ac; clear aa; clear HB; have ac := n0_; have aa := n1_; have HB := n2_; clear n0_ n1_ n2_; (try clear hb); (try clear hb2); (try clear hk); (try clear hi); obtain ⟨gl, gm, gn, go, gp, gq, gr, gs⟩ := bk4 aa.out) | ((with_reducible refine gate_callee (f := 11) rfl ?_); refine goesL_ (some 40) rfl rfl Try.func11 (by kernel_rfl) rfl #[.agg #[.int .i64 ab, .slice aj ad.length ak, .slice al af.length am, .slice ao ae.length ap], .string ar, .bool az, .bool ax, .int .i64 aw] rfl (by (try simp only [List.map_toArray, List.map_cons, List.map_nil]); first | done | rfl | (simp only [List.length_drop, List.length_take]; rfl)) ?_; (with_reducible refine (gate_Verdict.calls k ab _ _ ad _ _ af _ _ ae ar az ax aw true ai _ ?side1 ?side2 ?side3 ?side4 ?side5 ?side6 A5.out).mono ?_); (case side1 => repeat (first | exact (Kd.C_below aQ.out HB.out) | (with_reducible refine Kd.C_alloc ?_ _) | (with_reducible refine Kd.C_drewN ?_ _) | (with_reducible refine Kd.C_drew ?_))); (case side2 => exact HC0_1.out); (case side3 => repeat (first | exact (Kd.C_below aR.out HB.out) | (with_reducible refine Kd.C_alloc ?_ _) | (with_reducible refine Kd.C_drewN ?_ _) | (with_reducible refine Kd.C_drew ?_))); (case side4 => exact HC0_2.out); (case side5 => repeat (first | exact (Kd.C_below aS.out HB.out) | (with_reducible refine Kd.C_alloc ?_ _) | (with_reducible refine Kd.C_drewN ?_ _) | (with_reducible refine Kd.C_drew ?_))); (case side6 => exact HC0_3.out); rintro e w21 ⟨v353, rfl, ho0, hb⟩; refine ⟨_, rfl, ?_⟩; have n0_ := Aside0.mk (Kd.V_lower (Kd.V_mono (ok' := fun k_ => k_ ≠ ah ∧ k_ ≠ ag) ho0 (fun k_ hk_ => ⟨(Kd.freshB (g := ah) (o := .cells #[.int .i64 ab, .slice aj ad.length ak, .slice al af.length am, .slice ao ae.length ap, .string ar, .bool az, .bool ax, .int .i64 aw] 28 (0, 0)) (zB ac.out) k_ hk_), (Kd.freshB (g := ag) (o := .cells #[.int .i64 ab, .slice aj ad.length ak, .slice al af.length am, .slice ao ae.length ap] 26 (0, 0)) (zB aa.out) k_ hk_)⟩)) (below_size (by repeat (first | (with_reducible first | exact HB.out | apply pA | apply pN | apply pD | refine pS ?_ au.out | refine pS ?_ ay.out) | exact HB.out)))); have n1_ := Aside0.mk (blk_below (g := ah) (o := .cells #[.int .i64 ab, .slice aj ad.length ak, .slice al af.length am, .slice ao ae.length ap, .string ar, .bool az, .bool ax, .int .i64 aw] 28 (0, 0)) (zB ac.out) hb); have n2_ := Aside0.mk (blk_below (g := ag) (o := .cells #[.int .i64 ab, .slice aj ad.length ak, .slice al af.length am, .slice ao ae.length ap] 26 (0, 0)) (zB aa.out) hb); have n3_ := Aside0.mk (below_step (by repeat (first | (with_reducible first | exact HB.out | apply pA | apply pN | apply pD | refine pS ?_ au.out | refine pS ?_ ay.out) | exact HB.out)) hb); clear ac; clear aa; clear HB; have av := n0_; have ac := n1_; have aa := n2_; have HB := n3_; clear n0_ n1_ n2_ n3_; (try clear hb); (try clear hb2); (try clear hk); (try clear hi); (try clear ho0); obtain ⟨gt, gu, gv, gw, gx, gy, gz, gA⟩ := bk4 aa.out) | ((with_reducible refine gate_callee (f := 12) rfl ?_); refine goesL_ (some 46) rfl rfl Try.func12 (by kernel_rfl) rfl #[.agg #[.int .i64 ab, .slice aj ad.length ak, .slice al af.length am, .slice ao ae.length ap], .string ar] rfl (by (try simp only [List.map_toArray, List.map_cons, List.map_nil]); first | done | rfl | (simp only [List.length_drop, List.length_take]; rfl)) ?_; (with_reducible refine (gate_Failed.calls ab _ _ ad _ _ af _ _ ae ar aT bg _ ?side1 ?side2 ?side3 ?side4 ?side5 ?side6 A6.out).mono ?_); (case side1 => repeat (first | exact (Kd.C_below aQ.out HB.out) | (with_reducible refine Kd.C_alloc ?_ _) | (with_reducible refine Kd.C_drewN ?_ _) | (with_reducible refine Kd.C_drew ?_))); (case side2 => exact HC0_1.out); (case side3 => repeat (first | exact (Kd.C_below aR.out HB.out) | (with_reducible refine Kd.C_alloc ?_ _) | (with_reducible refine Kd.C_drewN ?_ _) | (with_reducible refine Kd.C_drew ?_))); (case side4 => exact HC0_2.out); (case side5 => repeat (first | exact (Kd.C_below aS.out HB.out) | (with_reducible refine Kd.C_alloc ?_ _) | (with_reducible refine Kd.C_drewN ?_ _) | (with_reducible refine Kd.C_drew ?_))); (case side6 => exact HC0_3.out); rintro e w23 ⟨rfl, hb⟩; refine ⟨_, rfl, ?_⟩; have n0_ := Aside0.mk (Kd.V_below (zV av.out) hb); have n1_ := Aside0.mk (blk_below (g := ah) (o := .cells #[.int .i64 ab, .slice aj ad.length ak, .slice al af.length am, .slice ao ae.length ap, .string ar, .bool az, .bool ax, .int .i64 aw] 28 (0, 0)) (zB ac.out) hb); have n2_ := Aside0.mk (blk_below (g := ag) (o := .cells #[.int .i64 ab, .slice aj ad.length ak, .slice al af.length am, .slice ao ae.length ap] 26 (0, 0)) (zB aa.out) hb); have n3_ := Aside0.mk (below_step (by repeat (first | (with_reducible first | exact HB.out | apply pA | apply pN | apply pD | refine pS ?_ au.out | refine pS ?_ ay.out) | exact HB.out)) hb); clear av; clear ac; clear aa; clear HB; have av := n0_; have ac := n1_; have aa := n2_; have HB := n3_; clear n0_ n1_ n2_ n3_; (try clear hb); (try clear hb2); (try clear hk); (try clear hi); obtain ⟨k5, k6, cd⟩ := Kd.V_slice av.out; subst cd))
      go_ret
      exact ⟨by first | rfl | (simp [errW_none, errW_some] <;> rfl) | (simp [*, errW_none, errW_some] <;> rfl), by repeat (first | (with_reducible first | exact HB.out | apply pA | apply pN | apply pD | refine pS ?_ au.out | refine pS ?_ ay.out) | exact HB.out)⟩
     ·rw [if_neg c10] at H
      have bU : (aT == 0) = false := beq_eq_false_iff_ne.mpr c10
      have bV : (aT != 0) = true := bne_iff_ne.mpr c10
      exact absurd ((Option.some.inj H).trans hlaw_.out) (by decide)
    ·replace c9 := Bool.eq_false_iff.mpr c9
     subst c9
     have H1 : (if az = true then ((gate_Locked.f ab ad af ae ar aw).bind fun bb => (some bb)) else (some true)) = some r := by rw [if_neg (show ¬ (false = true) by decide)] at H; exact H
     clear H
     have H := H1
     clear H1
     by_cases c25 : az = true
     ·subst c25
      have H1 : ((gate_Locked.f ab ad af ae ar aw).bind fun bb => (some bb)) = some r := by rw [if_pos rfl] at H; exact H
      clear H
      have H := H1
      clear H1
      replace H := Option.bind_eq_some_iff.mp H
      obtain ⟨bb, bI, H⟩ := H
      replace H : (some bb) = some r := H
      have kz := Aside0.mk bI
      clear bI
      clear hlaw_
      obtain rfl := Option.some.inj H
      go_enter Try.func3, Try.ntmps3
      go_wp2_with (first | ((with_reducible refine gate_dst (N := 1) rfl ?_); (try (refine gate_guard (by rfl) ?_; dsimp only)); refine box_event ?hg (N := 1) ?hd (cs := #[.int .i64 ab, .slice aj ad.length ak, .slice al af.length am, .slice ao ae.length ap, .string ar, .bool true, .bool ax, .int .i64 aw]) (t := 28) ?hr ?_; (case hd => rfl); (case hg => rfl); (case hr => first | (go_simp; done) | (go_simp; rfl)); intro ah hg w27 hbox hb; have n0_ := Aside0.mk (below_step (zH HB.out) hb); have n1_ := Aside0.mk (hbox); have n2_ := Aside0.mk ((by rw [hg]; exact (below_size (zH HB.out)) : w.heap.size ≤ ah)); have n3_ := Aside0.mk ((by rw [hg]; exact (below_size (zH HB.out)) : w.heap.size ≤ ah)); clear HB; have HB := n0_; have ac := n1_; have aD := n2_; have au := n3_; clear n0_ n1_ n2_ n3_; clear hb hbox hg; obtain ⟨gB, gC, gD, gE, gF, gG, gH, gI, gJ, gK, gL, gM, gN, gO, gP, gQ⟩ := bk8 ac.out) | ((with_reducible refine gate_dst (N := 3) rfl ?_); (try (refine gate_guard (by rfl) ?_; dsimp only)); refine box_event ?hg (N := 3) ?hd (cs := #[.int .i64 0, .slice none 0 0, .slice none 0 0, .slice none 0 0]) (t := 26) ?hr ?_; (case hd => rfl); (case hg => rfl); (case hr => first | (go_simp; done) | (go_simp; rfl)); intro ag hg w29 hbox hb; have n0_ := Aside0.mk (blk_below (g := ah) (o := .cells #[.int .i64 ab, .slice aj ad.length ak, .slice al af.length am, .slice ao ae.length ap, .string ar, .bool true, .bool ax, .int .i64 aw] 28 (0, 0)) (zB ac.out) hb); have n1_ := Aside0.mk (below_step (by repeat (first | (with_reducible first | exact HB.out | apply pA | apply pN | apply pD | refine pS ?_ au.out) | exact HB.out)) hb); have n2_ := Aside0.mk (hbox); have n3_ := Aside0.mk ((by rw [hg]; exact (below_size (by repeat (first | (with_reducible first | exact HB.out | apply pA | apply pN | apply pD | refine pS ?_ au.out) | exact HB.out))) : w.heap.size ≤ ag)); have n4_ := Aside0.mk ((by rw [hg]; exact (below_size (by repeat (first | (with_reducible first | exact HB.out | apply pA | apply pN | apply pD | refine pS ?_ au.out) | exact HB.out))) : w.heap.size ≤ ag)); have n5_ := Aside0.mk ((by rw [hg]; exact Nat.ne_of_lt (blk_lt (g := ah) (o := .cells #[.int .i64 ab, .slice aj ad.length ak, .slice al af.length am, .slice ao ae.length ap, .string ar, .bool true, .bool ax, .int .i64 aw] 28 (0, 0)) (zB ac.out)) : ah ≠ ag)); have n6_ := Aside0.mk ((by rw [hg]; exact Nat.ne_of_gt (blk_lt (g := ah) (o := .cells #[.int .i64 ab, .slice aj ad.length ak, .slice al af.length am, .slice ao ae.length ap, .string ar, .bool true, .bool ax, .int .i64 aw] 28 (0, 0)) (zB ac.out)) : ag ≠ ah)); clear ac; clear HB; have ac := n0_; have HB := n1_; have aa := n2_; have aE := n3_; have ay := n4_; have aN := n5_; have aW := n6_; clear n0_ n1_ n2_ n3_ n4_ n5_ n6_; clear hb hbox hg; have kO := aW.out; have kP := aN.out; obtain ⟨gR, gS, gT, gU, gV, gW, gX, gY⟩ := bk4 aa.out; obtain ⟨gZ, g0, g2, g3, g4, g5, g6, g7, g8, g9, ha, hf, hh, hj, hl, hq⟩ := bk8 ac.out) | ((with_reducible refine gate_callee (f := 9) rfl ?_); refine goesL_ (some 27) rfl rfl Try.func9 (by kernel_rfl) rfl #[] rfl (by (try simp only [List.map_toArray, List.map_cons, List.map_nil]); first | done | rfl | (simp only [List.length_drop, List.length_take]; rfl)) ?_; (with_reducible refine (portreevelaw16_shown.calls k  true _ A2.out).mono ?_); rintro e w33 ⟨rfl, hb⟩; refine ⟨_, rfl, ?_⟩; have n0_ := Aside0.mk (blk_below (g := ah) (o := .cells #[.int .i64 ab, .slice aj ad.length ak, .slice al af.length am, .slice ao ae.length ap, .string ar, .bool true, .bool ax, .int .i64 aw] 28 (0, 0)) (fB aN.out ac.out) hb); have n1_ := Aside0.mk (blk_below (g := ag) (o := .cells #[.int .i64 ab, .slice aj ad.length ak, .slice al af.length am, .slice ao ae.length ap] 26 (0, 0)) (by (with_reducible repeat (first | refine qN ?_ _ | refine qD ?_ | refine qA ?_ _)); refine blk_put (cs := #[.int .i64 ab, .slice aj ad.length ak, .slice al af.length am, .slice none 0 0]) ?_ 3 _ rfl; (with_reducible repeat (first | refine qN ?_ _ | refine qD ?_ | refine qA ?_ _)); refine blk_put (cs := #[.int .i64 ab, .slice aj ad.length ak, .slice none 0 0, .slice none 0 0]) ?_ 2 _ rfl; (with_reducible repeat (first | refine qN ?_ _ | refine qD ?_ | refine qA ?_ _)); refine blk_put (cs := #[.int .i64 ab, .slice none 0 0, .slice none 0 0, .slice none 0 0]) ?_ 1 _ rfl; (with_reducible repeat (first | refine qN ?_ _ | refine qD ?_ | refine qA ?_ _)); refine blk_put (cs := #[.int .i64 0, .slice none 0 0, .slice none 0 0, .slice none 0 0]) ?_ 0 _ rfl; (with_reducible repeat (first | refine qN ?_ _ | refine qD ?_ | refine qA ?_ _)); exact aa.out) hb); have n2_ := Aside0.mk (below_step (by repeat (first | (with_reducible first | exact HB.out | apply pA | apply pN | apply pD | refine pS ?_ au.out | refine pS ?_ ay.out) | exact HB.out)) hb); clear ac; clear aa; clear HB; have ac := n0_; have aa := n1_; have HB := n2_; clear n0_ n1_ n2_; (try clear hb); (try clear hb2); (try clear hk); (try clear hi); obtain ⟨ht, hu, hv, hz, hA, hB, hC, hD⟩ := bk4 aa.out) | ((with_reducible refine gate_callee (f := 10) rfl ?_); refine goesL_ (some 31) rfl rfl Try.func10 (by kernel_rfl) rfl #[.agg #[.int .i64 ab, .slice aj ad.length ak, .slice al af.length am, .slice ao ae.length ap], .string ar, .int .i64 aw] rfl (by (try simp only [List.map_toArray, List.map_cons, List.map_nil]); first | done | rfl | (simp only [List.length_drop, List.length_take]; rfl)) ?_; (with_reducible refine (portreevelaw16_may.calls k ab _ _ ad _ _ af _ _ ae ar aw true _ ?side1 ?side2 ?side3 ?side4 ?side5 ?side6 A3.out).mono ?_); (case side1 => repeat (first | exact (Kd.C_below aQ.out HB.out) | (with_reducible refine Kd.C_alloc ?_ _) | (with_reducible refine Kd.C_drewN ?_ _) | (with_reducible refine Kd.C_drew ?_))); (case side2 => exact HC0_1.out); (case side3 => repeat (first | exact (Kd.C_below aR.out HB.out) | (with_reducible refine Kd.C_alloc ?_ _) | (with_reducible refine Kd.C_drewN ?_ _) | (with_reducible refine Kd.C_drew ?_))); (case side4 => exact HC0_2.out); (case side5 => repeat (first | exact (Kd.C_below aS.out HB.out) | (with_reducible refine Kd.C_alloc ?_ _) | (with_reducible refine Kd.C_drewN ?_ _) | (with_reducible refine Kd.C_drew ?_))); (case side6 => exact HC0_3.out); rintro e w35 ⟨rfl, hb⟩; refine ⟨_, rfl, ?_⟩; have n0_ := Aside0.mk (blk_below (g := ah) (o := .cells #[.int .i64 ab, .slice aj ad.length ak, .slice al af.length am, .slice ao ae.length ap, .string ar, .bool true, .bool ax, .int .i64 aw] 28 (0, 0)) (zB ac.out) hb); have n1_ := Aside0.mk (blk_below (g := ag) (o := .cells #[.int .i64 ab, .slice aj ad.length ak, .slice al af.length am, .slice ao ae.length ap] 26 (0, 0)) (zB aa.out) hb); have n2_ := Aside0.mk (below_step (by repeat (first | (with_reducible first | exact HB.out | apply pA | apply pN | apply pD | refine pS ?_ au.out | refine pS ?_ ay.out) | exact HB.out)) hb); clear ac; clear aa; clear HB; have ac := n0_; have aa := n1_; have HB := n2_; clear n0_ n1_ n2_; (try clear hb); (try clear hb2); (try clear hk); (try clear hi); obtain ⟨hE, hF, hG, hH, hI, hJ, hL, hM⟩ := bk4 aa.out) | ((with_reducible refine gate_callee (f := 11) rfl ?_); refine goesL_ (some 40) rfl rfl Try.func11 (by kernel_rfl) rfl #[.agg #[.int .i64 ab, .slice aj ad.length ak, .slice al af.length am, .slice ao ae.length ap], .string ar, .bool true, .bool ax, .int .i64 aw] rfl (by (try simp only [List.map_toArray, List.map_cons, List.map_nil]); first | done | rfl | (simp only [List.length_drop, List.length_take]; rfl)) ?_; (with_reducible refine (gate_Verdict.calls k ab _ _ ad _ _ af _ _ ae ar true ax aw false ai _ ?side1 ?side2 ?side3 ?side4 ?side5 ?side6 A5.out).mono ?_); (case side1 => repeat (first | exact (Kd.C_below aQ.out HB.out) | (with_reducible refine Kd.C_alloc ?_ _) | (with_reducible refine Kd.C_drewN ?_ _) | (with_reducible refine Kd.C_drew ?_))); (case side2 => exact HC0_1.out); (case side3 => repeat (first | exact (Kd.C_below aR.out HB.out) | (with_reducible refine Kd.C_alloc ?_ _) | (with_reducible refine Kd.C_drewN ?_ _) | (with_reducible refine Kd.C_drew ?_))); (case side4 => exact HC0_2.out); (case side5 => repeat (first | exact (Kd.C_below aS.out HB.out) | (with_reducible refine Kd.C_alloc ?_ _) | (with_reducible refine Kd.C_drewN ?_ _) | (with_reducible refine Kd.C_drew ?_))); (case side6 => exact HC0_3.out); rintro e w37 ⟨v353, rfl, ho0, hb⟩; refine ⟨_, rfl, ?_⟩; have n0_ := Aside0.mk (Kd.V_lower (Kd.V_mono (ok' := fun k_ => k_ ≠ ah ∧ k_ ≠ ag) ho0 (fun k_ hk_ => ⟨(Kd.freshB (g := ah) (o := .cells #[.int .i64 ab, .slice aj ad.length ak, .slice al af.length am, .slice ao ae.length ap, .string ar, .bool true, .bool ax, .int .i64 aw] 28 (0, 0)) (zB ac.out) k_ hk_), (Kd.freshB (g := ag) (o := .cells #[.int .i64 ab, .slice aj ad.length ak, .slice al af.length am, .slice ao ae.length ap] 26 (0, 0)) (zB aa.out) k_ hk_)⟩)) (below_size (by repeat (first | (with_reducible first | exact HB.out | apply pA | apply pN | apply pD | refine pS ?_ au.out | refine pS ?_ ay.out) | exact HB.out)))); have n1_ := Aside0.mk (blk_below (g := ah) (o := .cells #[.int .i64 ab, .slice aj ad.length ak, .slice al af.length am, .slice ao ae.length ap, .string ar, .bool true, .bool ax, .int .i64 aw] 28 (0, 0)) (zB ac.out) hb); have n2_ := Aside0.mk (blk_below (g := ag) (o := .cells #[.int .i64 ab, .slice aj ad.length ak, .slice al af.length am, .slice ao ae.length ap] 26 (0, 0)) (zB aa.out) hb); have n3_ := Aside0.mk (below_step (by repeat (first | (with_reducible first | exact HB.out | apply pA | apply pN | apply pD | refine pS ?_ au.out | refine pS ?_ ay.out) | exact HB.out)) hb); clear ac; clear aa; clear HB; have av := n0_; have ac := n1_; have aa := n2_; have HB := n3_; clear n0_ n1_ n2_ n3_; (try clear hb); (try clear hb2); (try clear hk); (try clear hi); (try clear ho0); obtain ⟨hN, hO, hP, hQ, hR, hS, hT, hU⟩ := bk4 aa.out) | ((with_reducible refine gate_callee (f := 12) rfl ?_); refine goesL_ (some 46) rfl rfl Try.func12 (by kernel_rfl) rfl #[.agg #[.int .i64 ab, .slice aj ad.length ak, .slice al af.length am, .slice ao ae.length ap], .string ar] rfl (by (try simp only [List.map_toArray, List.map_cons, List.map_nil]); first | done | rfl | (simp only [List.length_drop, List.length_take]; rfl)) ?_; (with_reducible refine (gate_Failed.calls ab _ _ ad _ _ af _ _ ae ar aT bg _ ?side1 ?side2 ?side3 ?side4 ?side5 ?side6 A6.out).mono ?_); (case side1 => repeat (first | exact (Kd.C_below aQ.out HB.out) | (with_reducible refine Kd.C_alloc ?_ _) | (with_reducible refine Kd.C_drewN ?_ _) | (with_reducible refine Kd.C_drew ?_))); (case side2 => exact HC0_1.out); (case side3 => repeat (first | exact (Kd.C_below aR.out HB.out) | (with_reducible refine Kd.C_alloc ?_ _) | (with_reducible refine Kd.C_drewN ?_ _) | (with_reducible refine Kd.C_drew ?_))); (case side4 => exact HC0_2.out); (case side5 => repeat (first | exact (Kd.C_below aS.out HB.out) | (with_reducible refine Kd.C_alloc ?_ _) | (with_reducible refine Kd.C_drewN ?_ _) | (with_reducible refine Kd.C_drew ?_))); (case side6 => exact HC0_3.out); rintro e w39 ⟨rfl, hb⟩; refine ⟨_, rfl, ?_⟩; have n0_ := Aside0.mk (Kd.V_below (zV av.out) hb); have n1_ := Aside0.mk (blk_below (g := ah) (o := .cells #[.int .i64 ab, .slice aj ad.length ak, .slice al af.length am, .slice ao ae.length ap, .string ar, .bool true, .bool ax, .int .i64 aw] 28 (0, 0)) (zB ac.out) hb); have n2_ := Aside0.mk (blk_below (g := ag) (o := .cells #[.int .i64 ab, .slice aj ad.length ak, .slice al af.length am, .slice ao ae.length ap] 26 (0, 0)) (zB aa.out) hb); have n3_ := Aside0.mk (below_step (by repeat (first | (with_reducible first | exact HB.out | apply pA | apply pN | apply pD | refine pS ?_ au.out | refine pS ?_ ay.out) | exact HB.out)) hb); clear av; clear ac; clear aa; clear HB; have av := n0_; have ac := n1_; have aa := n2_; have HB := n3_; clear n0_ n1_ n2_ n3_; (try clear hb); (try clear hb2); (try clear hk); (try clear hi); obtain ⟨k7, k8, ce⟩ := Kd.V_slice av.out; subst ce; obtain ⟨hV, hW, hX, hY, hZ, h0, h1, h2⟩ := bk4 aa.out) | (go_at_call 13; (with_reducible refine (gate_Locked.calls ab _ _ ad _ _ af _ _ ae ar aw bb _ ?side1 ?side2 ?side3 ?side4 ?side5 ?side6 kz.out).mono ?_); (case side1 => repeat (first | exact (Kd.C_below aQ.out HB.out) | (with_reducible refine Kd.C_alloc ?_ _) | (with_reducible refine Kd.C_drewN ?_ _) | (with_reducible refine Kd.C_drew ?_))); (case side2 => exact HC0_1.out); (case side3 => repeat (first | exact (Kd.C_below aR.out HB.out) | (with_reducible refine Kd.C_alloc ?_ _) | (with_reducible refine Kd.C_drewN ?_ _) | (with_reducible refine Kd.C_drew ?_))); (case side4 => exact HC0_2.out); (case side5 => repeat (first | exact (Kd.C_below aS.out HB.out) | (with_reducible refine Kd.C_alloc ?_ _) | (with_reducible refine Kd.C_drewN ?_ _) | (with_reducible refine Kd.C_drew ?_))); (case side6 => exact HC0_3.out); rintro e w42 ⟨rfl, hb⟩; have n0_ := Aside0.mk (Kd.V_below (zV av.out) hb); have n1_ := Aside0.mk (blk_below (g := ah) (o := .cells #[.int .i64 ab, .slice aj ad.length ak, .slice al af.length am, .slice ao ae.length ap, .string ar, .bool true, .bool ax, .int .i64 aw] 28 (0, 0)) (zB ac.out) hb); have n2_ := Aside0.mk (blk_below (g := ag) (o := .cells #[.int .i64 ab, .slice aj ad.length ak, .slice al af.length am, .slice ao ae.length ap] 26 (0, 0)) (zB aa.out) hb); have n3_ := Aside0.mk (below_step (by repeat (first | (with_reducible first | exact HB.out | apply pA | apply pN | apply pD | refine pS ?_ au.out | refine pS ?_ ay.out) | exact HB.out)) hb); clear av; clear ac; clear aa; clear HB; have av := n0_; have ac := n1_; have aa := n2_; have HB := n3_; clear n0_ n1_ n2_ n3_; (try clear hb); (try clear hb2); (try clear hk); (try clear hi)))
      go_ret
      exact ⟨by first | rfl | (simp [errW_none, errW_some] <;> rfl) | (simp [*, errW_none, errW_some] <;> rfl), by repeat (first | (with_reducible first | exact HB.out | apply pA | apply pN | apply pD | refine pS ?_ au.out | refine pS ?_ ay.out) | exact HB.out)⟩
     ·replace c25 := Bool.eq_false_iff.mpr c25
      subst c25
      have H1 : (some true) = some r := by rw [if_neg (show ¬ (false = true) by decide)] at H; exact H
      clear H
      have H := H1
      clear H1
      clear hlaw_
      obtain rfl := Option.some.inj H
      go_enter Try.func3, Try.ntmps3
      go_wp2_with (first | ((with_reducible refine gate_dst (N := 1) rfl ?_); (try (refine gate_guard (by rfl) ?_; dsimp only)); refine box_event ?hg (N := 1) ?hd (cs := #[.int .i64 ab, .slice aj ad.length ak, .slice al af.length am, .slice ao ae.length ap, .string ar, .bool false, .bool ax, .int .i64 aw]) (t := 28) ?hr ?_; (case hd => rfl); (case hg => rfl); (case hr => first | (go_simp; done) | (go_simp; rfl)); intro ah hg w43 hbox hb; have n0_ := Aside0.mk (below_step (zH HB.out) hb); have n1_ := Aside0.mk (hbox); have n2_ := Aside0.mk ((by rw [hg]; exact (below_size (zH HB.out)) : w.heap.size ≤ ah)); have n3_ := Aside0.mk ((by rw [hg]; exact (below_size (zH HB.out)) : w.heap.size ≤ ah)); clear HB; have HB := n0_; have ac := n1_; have aD := n2_; have au := n3_; clear n0_ n1_ n2_ n3_; clear hb hbox hg; obtain ⟨h3, h4, h5, h6, h7, h8, h9, ia, ib, ic, ie, ig, ih, ii, ij, ik⟩ := bk8 ac.out) | ((with_reducible refine gate_dst (N := 3) rfl ?_); (try (refine gate_guard (by rfl) ?_; dsimp only)); refine box_event ?hg (N := 3) ?hd (cs := #[.int .i64 0, .slice none 0 0, .slice none 0 0, .slice none 0 0]) (t := 26) ?hr ?_; (case hd => rfl); (case hg => rfl); (case hr => first | (go_simp; done) | (go_simp; rfl)); intro ag hg w45 hbox hb; have n0_ := Aside0.mk (blk_below (g := ah) (o := .cells #[.int .i64 ab, .slice aj ad.length ak, .slice al af.length am, .slice ao ae.length ap, .string ar, .bool false, .bool ax, .int .i64 aw] 28 (0, 0)) (zB ac.out) hb); have n1_ := Aside0.mk (below_step (by repeat (first | (with_reducible first | exact HB.out | apply pA | apply pN | apply pD | refine pS ?_ au.out) | exact HB.out)) hb); have n2_ := Aside0.mk (hbox); have n3_ := Aside0.mk ((by rw [hg]; exact (below_size (by repeat (first | (with_reducible first | exact HB.out | apply pA | apply pN | apply pD | refine pS ?_ au.out) | exact HB.out))) : w.heap.size ≤ ag)); have n4_ := Aside0.mk ((by rw [hg]; exact (below_size (by repeat (first | (with_reducible first | exact HB.out | apply pA | apply pN | apply pD | refine pS ?_ au.out) | exact HB.out))) : w.heap.size ≤ ag)); have n5_ := Aside0.mk ((by rw [hg]; exact Nat.ne_of_lt (blk_lt (g := ah) (o := .cells #[.int .i64 ab, .slice aj ad.length ak, .slice al af.length am, .slice ao ae.length ap, .string ar, .bool false, .bool ax, .int .i64 aw] 28 (0, 0)) (zB ac.out)) : ah ≠ ag)); have n6_ := Aside0.mk ((by rw [hg]; exact Nat.ne_of_gt (blk_lt (g := ah) (o := .cells #[.int .i64 ab, .slice aj ad.length ak, .slice al af.length am, .slice ao ae.length ap, .string ar, .bool false, .bool ax, .int .i64 aw] 28 (0, 0)) (zB ac.out)) : ag ≠ ah)); clear ac; clear HB; have ac := n0_; have HB := n1_; have aa := n2_; have aE := n3_; have ay := n4_; have aN := n5_; have aW := n6_; clear n0_ n1_ n2_ n3_ n4_ n5_ n6_; clear hb hbox hg; have kQ := aW.out; have kR := aN.out; obtain ⟨il, im, io, ip, iq, ir, it, iu⟩ := bk4 aa.out; obtain ⟨iv, iw, ix, iy, iz, iA, iB, iC, iD, iE, iF, iG, iH, iI, iJ, iK⟩ := bk8 ac.out) | ((with_reducible refine gate_callee (f := 9) rfl ?_); refine goesL_ (some 27) rfl rfl Try.func9 (by kernel_rfl) rfl #[] rfl (by (try simp only [List.map_toArray, List.map_cons, List.map_nil]); first | done | rfl | (simp only [List.length_drop, List.length_take]; rfl)) ?_; (with_reducible refine (portreevelaw16_shown.calls k  true _ A2.out).mono ?_); rintro e w49 ⟨rfl, hb⟩; refine ⟨_, rfl, ?_⟩; have n0_ := Aside0.mk (blk_below (g := ah) (o := .cells #[.int .i64 ab, .slice aj ad.length ak, .slice al af.length am, .slice ao ae.length ap, .string ar, .bool false, .bool ax, .int .i64 aw] 28 (0, 0)) (fB aN.out ac.out) hb); have n1_ := Aside0.mk (blk_below (g := ag) (o := .cells #[.int .i64 ab, .slice aj ad.length ak, .slice al af.length am, .slice ao ae.length ap] 26 (0, 0)) (by (with_reducible repeat (first | refine qN ?_ _ | refine qD ?_ | refine qA ?_ _)); refine blk_put (cs := #[.int .i64 ab, .slice aj ad.length ak, .slice al af.length am, .slice none 0 0]) ?_ 3 _ rfl; (with_reducible repeat (first | refine qN ?_ _ | refine qD ?_ | refine qA ?_ _)); refine blk_put (cs := #[.int .i64 ab, .slice aj ad.length ak, .slice none 0 0, .slice none 0 0]) ?_ 2 _ rfl; (with_reducible repeat (first | refine qN ?_ _ | refine qD ?_ | refine qA ?_ _)); refine blk_put (cs := #[.int .i64 ab, .slice none 0 0, .slice none 0 0, .slice none 0 0]) ?_ 1 _ rfl; (with_reducible repeat (first | refine qN ?_ _ | refine qD ?_ | refine qA ?_ _)); refine blk_put (cs := #[.int .i64 0, .slice none 0 0, .slice none 0 0, .slice none 0 0]) ?_ 0 _ rfl; (with_reducible repeat (first | refine qN ?_ _ | refine qD ?_ | refine qA ?_ _)); exact aa.out) hb); have n2_ := Aside0.mk (below_step (by repeat (first | (with_reducible first | exact HB.out | apply pA | apply pN | apply pD | refine pS ?_ au.out | refine pS ?_ ay.out) | exact HB.out)) hb); clear ac; clear aa; clear HB; have ac := n0_; have aa := n1_; have HB := n2_; clear n0_ n1_ n2_; (try clear hb); (try clear hb2); (try clear hk); (try clear hi); obtain ⟨iL, iM, iN, iO, iP, iQ, iR, iS⟩ := bk4 aa.out) | ((with_reducible refine gate_callee (f := 10) rfl ?_); refine goesL_ (some 31) rfl rfl Try.func10 (by kernel_rfl) rfl #[.agg #[.int .i64 ab, .slice aj ad.length ak, .slice al af.length am, .slice ao ae.length ap], .string ar, .int .i64 aw] rfl (by (try simp only [List.map_toArray, List.map_cons, List.map_nil]); first | done | rfl | (simp only [List.length_drop, List.length_take]; rfl)) ?_; (with_reducible refine (portreevelaw16_may.calls k ab _ _ ad _ _ af _ _ ae ar aw true _ ?side1 ?side2 ?side3 ?side4 ?side5 ?side6 A3.out).mono ?_); (case side1 => repeat (first | exact (Kd.C_below aQ.out HB.out) | (with_reducible refine Kd.C_alloc ?_ _) | (with_reducible refine Kd.C_drewN ?_ _) | (with_reducible refine Kd.C_drew ?_))); (case side2 => exact HC0_1.out); (case side3 => repeat (first | exact (Kd.C_below aR.out HB.out) | (with_reducible refine Kd.C_alloc ?_ _) | (with_reducible refine Kd.C_drewN ?_ _) | (with_reducible refine Kd.C_drew ?_))); (case side4 => exact HC0_2.out); (case side5 => repeat (first | exact (Kd.C_below aS.out HB.out) | (with_reducible refine Kd.C_alloc ?_ _) | (with_reducible refine Kd.C_drewN ?_ _) | (with_reducible refine Kd.C_drew ?_))); (case side6 => exact HC0_3.out); rintro e w51 ⟨rfl, hb⟩; refine ⟨_, rfl, ?_⟩; have n0_ := Aside0.mk (blk_below (g := ah) (o := .cells #[.int .i64 ab, .slice aj ad.length ak, .slice al af.length am, .slice ao ae.length ap, .string ar, .bool false, .bool ax, .int .i64 aw] 28 (0, 0)) (zB ac.out) hb); have n1_ := Aside0.mk (blk_below (g := ag) (o := .cells #[.int .i64 ab, .slice aj ad.length ak, .slice al af.length am, .slice ao ae.length ap] 26 (0, 0)) (zB aa.out) hb); have n2_ := Aside0.mk (below_step (by repeat (first | (with_reducible first | exact HB.out | apply pA | apply pN | apply pD | refine pS ?_ au.out | refine pS ?_ ay.out) | exact HB.out)) hb); clear ac; clear aa; clear HB; have ac := n0_; have aa := n1_; have HB := n2_; clear n0_ n1_ n2_; (try clear hb); (try clear hb2); (try clear hk); (try clear hi); obtain ⟨iT, iU, iV, iW, iX, iY, iZ, i0⟩ := bk4 aa.out) | ((with_reducible refine gate_callee (f := 11) rfl ?_); refine goesL_ (some 40) rfl rfl Try.func11 (by kernel_rfl) rfl #[.agg #[.int .i64 ab, .slice aj ad.length ak, .slice al af.length am, .slice ao ae.length ap], .string ar, .bool false, .bool ax, .int .i64 aw] rfl (by (try simp only [List.map_toArray, List.map_cons, List.map_nil]); first | done | rfl | (simp only [List.length_drop, List.length_take]; rfl)) ?_; (with_reducible refine (gate_Verdict.calls k ab _ _ ad _ _ af _ _ ae ar false ax aw false ai _ ?side1 ?side2 ?side3 ?side4 ?side5 ?side6 A5.out).mono ?_); (case side1 => repeat (first | exact (Kd.C_below aQ.out HB.out) | (with_reducible refine Kd.C_alloc ?_ _) | (with_reducible refine Kd.C_drewN ?_ _) | (with_reducible refine Kd.C_drew ?_))); (case side2 => exact HC0_1.out); (case side3 => repeat (first | exact (Kd.C_below aR.out HB.out) | (with_reducible refine Kd.C_alloc ?_ _) | (with_reducible refine Kd.C_drewN ?_ _) | (with_reducible refine Kd.C_drew ?_))); (case side4 => exact HC0_2.out); (case side5 => repeat (first | exact (Kd.C_below aS.out HB.out) | (with_reducible refine Kd.C_alloc ?_ _) | (with_reducible refine Kd.C_drewN ?_ _) | (with_reducible refine Kd.C_drew ?_))); (case side6 => exact HC0_3.out); rintro e w53 ⟨v353, rfl, ho0, hb⟩; refine ⟨_, rfl, ?_⟩; have n0_ := Aside0.mk (Kd.V_lower (Kd.V_mono (ok' := fun k_ => k_ ≠ ah ∧ k_ ≠ ag) ho0 (fun k_ hk_ => ⟨(Kd.freshB (g := ah) (o := .cells #[.int .i64 ab, .slice aj ad.length ak, .slice al af.length am, .slice ao ae.length ap, .string ar, .bool false, .bool ax, .int .i64 aw] 28 (0, 0)) (zB ac.out) k_ hk_), (Kd.freshB (g := ag) (o := .cells #[.int .i64 ab, .slice aj ad.length ak, .slice al af.length am, .slice ao ae.length ap] 26 (0, 0)) (zB aa.out) k_ hk_)⟩)) (below_size (by repeat (first | (with_reducible first | exact HB.out | apply pA | apply pN | apply pD | refine pS ?_ au.out | refine pS ?_ ay.out) | exact HB.out)))); have n1_ := Aside0.mk (blk_below (g := ah) (o := .cells #[.int .i64 ab, .slice aj ad.length ak, .slice al af.length am, .slice ao ae.length ap, .string ar, .bool false, .bool ax, .int .i64 aw] 28 (0, 0)) (zB ac.out) hb); have n2_ := Aside0.mk (blk_below (g := ag) (o := .cells #[.int .i64 ab, .slice aj ad.length ak, .slice al af.length am, .slice ao ae.length ap] 26 (0, 0)) (zB aa.out) hb); have n3_ := Aside0.mk (below_step (by repeat (first | (with_reducible first | exact HB.out | apply pA | apply pN | apply pD | refine pS ?_ au.out | refine pS ?_ ay.out) | exact HB.out)) hb); clear ac; clear aa; clear HB; have av := n0_; have ac := n1_; have aa := n2_; have HB := n3_; clear n0_ n1_ n2_ n3_; (try clear hb); (try clear hb2); (try clear hk); (try clear hi); (try clear ho0); obtain ⟨i1, i2, i3, i4, i5, i6, i7, i8⟩ := bk4 aa.out) | ((with_reducible refine gate_callee (f := 12) rfl ?_); refine goesL_ (some 46) rfl rfl Try.func12 (by kernel_rfl) rfl #[.agg #[.int .i64 ab, .slice aj ad.length ak, .slice al af.length am, .slice ao ae.length ap], .string ar] rfl (by (try simp only [List.map_toArray, List.map_cons, List.map_nil]); first | done | rfl | (simp only [List.length_drop, List.length_take]; rfl)) ?_; (with_reducible refine (gate_Failed.calls ab _ _ ad _ _ af _ _ ae ar aT bg _ ?side1 ?side2 ?side3 ?side4 ?side5 ?side6 A6.out).mono ?_); (case side1 => repeat (first | exact (Kd.C_below aQ.out HB.out) | (with_reducible refine Kd.C_alloc ?_ _) | (with_reducible refine Kd.C_drewN ?_ _) | (with_reducible refine Kd.C_drew ?_))); (case side2 => exact HC0_1.out); (case side3 => repeat (first | exact (Kd.C_below aR.out HB.out) | (with_reducible refine Kd.C_alloc ?_ _) | (with_reducible refine Kd.C_drewN ?_ _) | (with_reducible refine Kd.C_drew ?_))); (case side4 => exact HC0_2.out); (case side5 => repeat (first | exact (Kd.C_below aS.out HB.out) | (with_reducible refine Kd.C_alloc ?_ _) | (with_reducible refine Kd.C_drewN ?_ _) | (with_reducible refine Kd.C_drew ?_))); (case side6 => exact HC0_3.out); rintro e w55 ⟨rfl, hb⟩; refine ⟨_, rfl, ?_⟩; have n0_ := Aside0.mk (Kd.V_below (zV av.out) hb); have n1_ := Aside0.mk (blk_below (g := ah) (o := .cells #[.int .i64 ab, .slice aj ad.length ak, .slice al af.length am, .slice ao ae.length ap, .string ar, .bool false, .bool ax, .int .i64 aw] 28 (0, 0)) (zB ac.out) hb); have n2_ := Aside0.mk (blk_below (g := ag) (o := .cells #[.int .i64 ab, .slice aj ad.length ak, .slice al af.length am, .slice ao ae.length ap] 26 (0, 0)) (zB aa.out) hb); have n3_ := Aside0.mk (below_step (by repeat (first | (with_reducible first | exact HB.out | apply pA | apply pN | apply pD | refine pS ?_ au.out | refine pS ?_ ay.out) | exact HB.out)) hb); clear av; clear ac; clear aa; clear HB; have av := n0_; have ac := n1_; have aa := n2_; have HB := n3_; clear n0_ n1_ n2_ n3_; (try clear hb); (try clear hb2); (try clear hk); (try clear hi); obtain ⟨k9, la, cf⟩ := Kd.V_slice av.out; subst cf))
      go_ret
      exact ⟨by first | rfl | (simp [errW_none, errW_some] <;> rfl) | (simp [*, errW_none, errW_some] <;> rfl), by repeat (first | (with_reducible first | exact HB.out | apply pA | apply pN | apply pD | refine pS ?_ au.out | refine pS ?_ ay.out) | exact HB.out)⟩
   ·replace c8 := Bool.eq_false_iff.mpr c8
    subst c8
    have H1 : (some false) = some r := by rw [if_neg (show ¬ (false = true) by decide)] at H; exact H
    clear H
    have H := H1
    clear H1
    exact absurd ((Option.some.inj H).trans hlaw_.out) (by decide)
  ·rw [if_neg c7] at H
   have cb : ((ai.length : Int) == 0) = false := beq_eq_false_iff_ne.mpr c7
   have cc : ((ai.length : Int) != 0) = true := bne_iff_ne.mpr c7
   have lb : ¬ (ai = []) := fun h_ => c7 (by rw [h_]; rfl)
   by_cases c57 : 0 < (ai.length : Int)
   ·rw [if_pos c57] at H
    have kS : decide (0 < (ai.length : Int)) = true := decide_eq_true c57
    have kT : decide (0 < ai.length) = true := decide_eq_true (by omega)
    clear c57
    replace H := Option.bind_eq_some_iff.mp H
    obtain ⟨⟨aP, aV, aY, a8, ba⟩, bJ, H⟩ := H
    replace H : ((gate_Failed.f aP aV aY a8 ar).bind fun aZ => (if ba = 0 then (if aU = true then (if (ai.length : Int) = 1 then (if (aX == ax) = true then (if aX = true then (if aZ.1 = 0 then (some true) else (some false)) else (some (aZ.1 == (mn (wrap64 (aT + 1)) 255)))) else (some false)) else (some false)) else (some false)) else (if aU = true then (if (ai.length : Int) = 1 then (if aX = true then (some false) else (if aT = 0 then (some ((ae.length : Int) == 8)) else (some false))) else (some false)) else (some false)))) = some r := H
    have bl := Aside0.mk bJ
    clear bJ
    replace H := Option.bind_eq_some_iff.mp H
    obtain ⟨⟨bc, bt⟩, bK, H⟩ := H
    replace H : (if ba = 0 then (if aU = true then (if (ai.length : Int) = 1 then (if (aX == ax) = true then (if aX = true then (if bc = 0 then (some true) else (some false)) else (some (bc == (mn (wrap64 (aT + 1)) 255)))) else (some false)) else (some false)) else (some false)) else (if aU = true then (if (ai.length : Int) = 1 then (if aX = true then (some false) else (if aT = 0 then (some ((ae.length : Int) == 8)) else (some false))) else (some false)) else (some false))) = some r := H
    have bw := Aside0.mk bK
    clear bK
    by_cases c60 : ba = 0
    ·rw [if_pos c60] at H
     have bW : (ba == 0) = true := beq_iff_eq.mpr c60
     have bX : (ba != 0) = false := bne_eq_false_iff_eq.mpr c60
     clear c60
     by_cases c61 : aU = true
     ·subst c61
      have H1 : (if (ai.length : Int) = 1 then (if (aX == ax) = true then (if aX = true then (if bc = 0 then (some true) else (some false)) else (some (bc == (mn (wrap64 (aT + 1)) 255)))) else (some false)) else (some false)) = some r := by rw [if_pos rfl] at H; exact H
      clear H
      have H := H1
      clear H1
      by_cases c62 : (ai.length : Int) = 1
      ·rw [if_pos c62] at H
       have bY : ((ai.length : Int) == 1) = true := beq_iff_eq.mpr c62
       have bZ : ((ai.length : Int) != 1) = false := bne_eq_false_iff_eq.mpr c62
       clear c62
       by_cases c63 : (aX == ax) = true
       ·rw [if_pos c63] at H
        have b0 : (aX == ax) = true := c63
        (try (have b1 : decide (aX = ax) = true := by simpa using c63))
        (try (have b2 : (aX == ax) = true := by simpa using c63))
        clear c63
        by_cases c64 : aX = true
        ·subst c64
         have H1 : (if bc = 0 then (some true) else (some false)) = some r := by rw [if_pos rfl] at H; exact H
         clear H
         have H := H1
         clear H1
         by_cases c65 : bc = 0
         ·rw [if_pos c65] at H
          have b3 : (bc == 0) = true := beq_iff_eq.mpr c65
          have b4 : (bc != 0) = false := bne_eq_false_iff_eq.mpr c65
          clear c65
          clear hlaw_
          obtain rfl := Option.some.inj H
          go_enter Try.func3, Try.ntmps3
          try go_wp2_with (first | ((with_reducible refine gate_dst (N := 1) rfl ?_); (try (refine gate_guard (by rfl) ?_; dsimp only)); refine box_event ?hg (N := 1) ?hd (cs := #[.int .i64 ab, .slice aj ad.length ak, .slice al af.length am, .slice ao ae.length ap, .string ar, .bool az, .bool ax, .int .i64 aw]) (t := 28) ?hr ?_; (case hd => rfl); (case hg => rfl); (case hr => first | (go_simp; done) | (go_simp; rfl)); intro ah hg w66 hbox hb; have n0_ := Aside0.mk (below_step (zH HB.out) hb); have n1_ := Aside0.mk (hbox); have n2_ := Aside0.mk ((by rw [hg]; exact (below_size (zH HB.out)) : w.heap.size ≤ ah)); have n3_ := Aside0.mk ((by rw [hg]; exact (below_size (zH HB.out)) : w.heap.size ≤ ah)); clear HB; have HB := n0_; have ac := n1_; have aD := n2_; have au := n3_; clear n0_ n1_ n2_ n3_; clear hb hbox hg; obtain ⟨i9, ja, jb, jc, jd, je, jf, jg, jh, ji, jj, jk, jl, jm, jn, jo⟩ := bk8 ac.out) | ((with_reducible refine gate_dst (N := 3) rfl ?_); (try (refine gate_guard (by rfl) ?_; dsimp only)); refine box_event ?hg (N := 3) ?hd (cs := #[.int .i64 0, .slice none 0 0, .slice none 0 0, .slice none 0 0]) (t := 26) ?hr ?_; (case hd => rfl); (case hg => rfl); (case hr => first | (go_simp; done) | (go_simp; rfl)); intro ag hg w68 hbox hb; have n0_ := Aside0.mk (blk_below (g := ah) (o := .cells #[.int .i64 ab, .slice aj ad.length ak, .slice al af.length am, .slice ao ae.length ap, .string ar, .bool az, .bool ax, .int .i64 aw] 28 (0, 0)) (zB ac.out) hb); have n1_ := Aside0.mk (below_step (by repeat (first | (with_reducible first | exact HB.out | apply pA | apply pN | apply pD | refine pS ?_ au.out) | exact HB.out)) hb); have n2_ := Aside0.mk (hbox); have n3_ := Aside0.mk ((by rw [hg]; exact (below_size (by repeat (first | (with_reducible first | exact HB.out | apply pA | apply pN | apply pD | refine pS ?_ au.out) | exact HB.out))) : w.heap.size ≤ ag)); have n4_ := Aside0.mk ((by rw [hg]; exact (below_size (by repeat (first | (with_reducible first | exact HB.out | apply pA | apply pN | apply pD | refine pS ?_ au.out) | exact HB.out))) : w.heap.size ≤ ag)); have n5_ := Aside0.mk ((by rw [hg]; exact Nat.ne_of_lt (blk_lt (g := ah) (o := .cells #[.int .i64 ab, .slice aj ad.length ak, .slice al af.length am, .slice ao ae.length ap, .string ar, .bool az, .bool ax, .int .i64 aw] 28 (0, 0)) (zB ac.out)) : ah ≠ ag)); have n6_ := Aside0.mk ((by rw [hg]; exact Nat.ne_of_gt (blk_lt (g := ah) (o := .cells #[.int .i64 ab, .slice aj ad.length ak, .slice al af.length am, .slice ao ae.length ap, .string ar, .bool az, .bool ax, .int .i64 aw] 28 (0, 0)) (zB ac.out)) : ag ≠ ah)); clear ac; clear HB; have ac := n0_; have HB := n1_; have aa := n2_; have aE := n3_; have ay := n4_; have aN := n5_; have aW := n6_; clear n0_ n1_ n2_ n3_ n4_ n5_ n6_; clear hb hbox hg; have kU := aW.out; have kV := aN.out; obtain ⟨jp, jq, jr, js, jt, ju, jv, jw⟩ := bk4 aa.out; obtain ⟨jx, jy, jz, jA, jB, jC, jD, jE, jF, jG, jH, jI, jJ, jK, jL, jM⟩ := bk8 ac.out) | ((with_reducible refine gate_callee (f := 9) rfl ?_); refine goesL_ (some 27) rfl rfl Try.func9 (by kernel_rfl) rfl #[] rfl (by (try simp only [List.map_toArray, List.map_cons, List.map_nil]); first | done | rfl | (simp only [List.length_drop, List.length_take]; rfl)) ?_; (with_reducible refine (portreevelaw16_shown.calls k  true _ A2.out).mono ?_); rintro e w72 ⟨rfl, hb⟩; refine ⟨_, rfl, ?_⟩; have n0_ := Aside0.mk (blk_below (g := ah) (o := .cells #[.int .i64 ab, .slice aj ad.length ak, .slice al af.length am, .slice ao ae.length ap, .string ar, .bool az, .bool ax, .int .i64 aw] 28 (0, 0)) (fB aN.out ac.out) hb); have n1_ := Aside0.mk (blk_below (g := ag) (o := .cells #[.int .i64 ab, .slice aj ad.length ak, .slice al af.length am, .slice ao ae.length ap] 26 (0, 0)) (by (with_reducible repeat (first | refine qN ?_ _ | refine qD ?_ | refine qA ?_ _)); refine blk_put (cs := #[.int .i64 ab, .slice aj ad.length ak, .slice al af.length am, .slice none 0 0]) ?_ 3 _ rfl; (with_reducible repeat (first | refine qN ?_ _ | refine qD ?_ | refine qA ?_ _)); refine blk_put (cs := #[.int .i64 ab, .slice aj ad.length ak, .slice none 0 0, .slice none 0 0]) ?_ 2 _ rfl; (with_reducible repeat (first | refine qN ?_ _ | refine qD ?_ | refine qA ?_ _)); refine blk_put (cs := #[.int .i64 ab, .slice none 0 0, .slice none 0 0, .slice none 0 0]) ?_ 1 _ rfl; (with_reducible repeat (first | refine qN ?_ _ | refine qD ?_ | refine qA ?_ _)); refine blk_put (cs := #[.int .i64 0, .slice none 0 0, .slice none 0 0, .slice none 0 0]) ?_ 0 _ rfl; (with_reducible repeat (first | refine qN ?_ _ | refine qD ?_ | refine qA ?_ _)); exact aa.out) hb); have n2_ := Aside0.mk (below_step (by repeat (first | (with_reducible first | exact HB.out | apply pA | apply pN | apply pD | refine pS ?_ au.out | refine pS ?_ ay.out) | exact HB.out)) hb); clear ac; clear aa; clear HB; have ac := n0_; have aa := n1_; have HB := n2_; clear n0_ n1_ n2_; (try clear hb); (try clear hb2); (try clear hk); (try clear hi); obtain ⟨jN, jO, jP, jQ, jR, jS, jT, jU⟩ := bk4 aa.out) | ((with_reducible refine gate_callee (f := 10) rfl ?_); refine goesL_ (some 31) rfl rfl Try.func10 (by kernel_rfl) rfl #[.agg #[.int .i64 ab, .slice aj ad.length ak, .slice al af.length am, .slice ao ae.length ap], .string ar, .int .i64 aw] rfl (by (try simp only [List.map_toArray, List.map_cons, List.map_nil]); first | done | rfl | (simp only [List.length_drop, List.length_take]; rfl)) ?_; (with_reducible refine (portreevelaw16_may.calls k ab _ _ ad _ _ af _ _ ae ar aw true _ ?side1 ?side2 ?side3 ?side4 ?side5 ?side6 A3.out).mono ?_); (case side1 => repeat (first | exact (Kd.C_below aQ.out HB.out) | (with_reducible refine Kd.C_alloc ?_ _) | (with_reducible refine Kd.C_drewN ?_ _) | (with_reducible refine Kd.C_drew ?_))); (case side2 => exact HC0_1.out); (case side3 => repeat (first | exact (Kd.C_below aR.out HB.out) | (with_reducible refine Kd.C_alloc ?_ _) | (with_reducible refine Kd.C_drewN ?_ _) | (with_reducible refine Kd.C_drew ?_))); (case side4 => exact HC0_2.out); (case side5 => repeat (first | exact (Kd.C_below aS.out HB.out) | (with_reducible refine Kd.C_alloc ?_ _) | (with_reducible refine Kd.C_drewN ?_ _) | (with_reducible refine Kd.C_drew ?_))); (case side6 => exact HC0_3.out); rintro e w74 ⟨rfl, hb⟩; refine ⟨_, rfl, ?_⟩; have n0_ := Aside0.mk (blk_below (g := ah) (o := .cells #[.int .i64 ab, .slice aj ad.length ak, .slice al af.length am, .slice ao ae.length ap, .string ar, .bool az, .bool ax, .int .i64 aw] 28 (0, 0)) (zB ac.out) hb); have n1_ := Aside0.mk (blk_below (g := ag) (o := .cells #[.int .i64 ab, .slice aj ad.length ak, .slice al af.length am, .slice ao ae.length ap] 26 (0, 0)) (zB aa.out) hb); have n2_ := Aside0.mk (below_step (by repeat (first | (with_reducible first | exact HB.out | apply pA | apply pN | apply pD | refine pS ?_ au.out | refine pS ?_ ay.out) | exact HB.out)) hb); clear ac; clear aa; clear HB; have ac := n0_; have aa := n1_; have HB := n2_; clear n0_ n1_ n2_; (try clear hb); (try clear hb2); (try clear hk); (try clear hi); obtain ⟨jV, jW, jX, jY, jZ, j0, j1, j2⟩ := bk4 aa.out) | ((with_reducible refine gate_callee (f := 11) rfl ?_); refine goesL_ (some 40) rfl rfl Try.func11 (by kernel_rfl) rfl #[.agg #[.int .i64 ab, .slice aj ad.length ak, .slice al af.length am, .slice ao ae.length ap], .string ar, .bool az, .bool ax, .int .i64 aw] rfl (by (try simp only [List.map_toArray, List.map_cons, List.map_nil]); first | done | rfl | (simp only [List.length_drop, List.length_take]; rfl)) ?_; (with_reducible refine (gate_Verdict.calls k ab _ _ ad _ _ af _ _ ae ar az ax aw true ai _ ?side1 ?side2 ?side3 ?side4 ?side5 ?side6 A5.out).mono ?_); (case side1 => repeat (first | exact (Kd.C_below aQ.out HB.out) | (with_reducible refine Kd.C_alloc ?_ _) | (with_reducible refine Kd.C_drewN ?_ _) | (with_reducible refine Kd.C_drew ?_))); (case side2 => exact HC0_1.out); (case side3 => repeat (first | exact (Kd.C_below aR.out HB.out) | (with_reducible refine Kd.C_alloc ?_ _) | (with_reducible refine Kd.C_drewN ?_ _) | (with_reducible refine Kd.C_drew ?_))); (case side4 => exact HC0_2.out); (case side5 => repeat (first | exact (Kd.C_below aS.out HB.out) | (with_reducible refine Kd.C_alloc ?_ _) | (with_reducible refine Kd.C_drewN ?_ _) | (with_reducible refine Kd.C_drew ?_))); (case side6 => exact HC0_3.out); rintro e w76 ⟨v353, rfl, ho0, hb⟩; refine ⟨_, rfl, ?_⟩; have n0_ := Aside0.mk (Kd.V_lower (Kd.V_mono (ok' := fun k_ => k_ ≠ ah ∧ k_ ≠ ag) ho0 (fun k_ hk_ => ⟨(Kd.freshB (g := ah) (o := .cells #[.int .i64 ab, .slice aj ad.length ak, .slice al af.length am, .slice ao ae.length ap, .string ar, .bool az, .bool ax, .int .i64 aw] 28 (0, 0)) (zB ac.out) k_ hk_), (Kd.freshB (g := ag) (o := .cells #[.int .i64 ab, .slice aj ad.length ak, .slice al af.length am, .slice ao ae.length ap] 26 (0, 0)) (zB aa.out) k_ hk_)⟩)) (below_size (by repeat (first | (with_reducible first | exact HB.out | apply pA | apply pN | apply pD | refine pS ?_ au.out | refine pS ?_ ay.out) | exact HB.out)))); have n1_ := Aside0.mk (blk_below (g := ah) (o := .cells #[.int .i64 ab, .slice aj ad.length ak, .slice al af.length am, .slice ao ae.length ap, .string ar, .bool az, .bool ax, .int .i64 aw] 28 (0, 0)) (zB ac.out) hb); have n2_ := Aside0.mk (blk_below (g := ag) (o := .cells #[.int .i64 ab, .slice aj ad.length ak, .slice al af.length am, .slice ao ae.length ap] 26 (0, 0)) (zB aa.out) hb); have n3_ := Aside0.mk (below_step (by repeat (first | (with_reducible first | exact HB.out | apply pA | apply pN | apply pD | refine pS ?_ au.out | refine pS ?_ ay.out) | exact HB.out)) hb); clear ac; clear aa; clear HB; have av := n0_; have ac := n1_; have aa := n2_; have HB := n3_; clear n0_ n1_ n2_ n3_; (try clear hb); (try clear hb2); (try clear hk); (try clear hi); (try clear ho0); obtain ⟨j3, j4, j5, j6, j7, j8, j9, ka⟩ := bk4 aa.out) | ((with_reducible refine gate_callee (f := 12) rfl ?_); refine goesL_ (some 46) rfl rfl Try.func12 (by kernel_rfl) rfl #[.agg #[.int .i64 ab, .slice aj ad.length ak, .slice al af.length am, .slice ao ae.length ap], .string ar] rfl (by (try simp only [List.map_toArray, List.map_cons, List.map_nil]); first | done | rfl | (simp only [List.length_drop, List.length_take]; rfl)) ?_; (with_reducible refine (gate_Failed.calls ab _ _ ad _ _ af _ _ ae ar aT bg _ ?side1 ?side2 ?side3 ?side4 ?side5 ?side6 A6.out).mono ?_); (case side1 => repeat (first | exact (Kd.C_below aQ.out HB.out) | (with_reducible refine Kd.C_alloc ?_ _) | (with_reducible refine Kd.C_drewN ?_ _) | (with_reducible refine Kd.C_drew ?_))); (case side2 => exact HC0_1.out); (case side3 => repeat (first | exact (Kd.C_below aR.out HB.out) | (with_reducible refine Kd.C_alloc ?_ _) | (with_reducible refine Kd.C_drewN ?_ _) | (with_reducible refine Kd.C_drew ?_))); (case side4 => exact HC0_2.out); (case side5 => repeat (first | exact (Kd.C_below aS.out HB.out) | (with_reducible refine Kd.C_alloc ?_ _) | (with_reducible refine Kd.C_drewN ?_ _) | (with_reducible refine Kd.C_drew ?_))); (case side6 => exact HC0_3.out); rintro e w78 ⟨rfl, hb⟩; refine ⟨_, rfl, ?_⟩; have n0_ := Aside0.mk (Kd.V_below (zV av.out) hb); have n1_ := Aside0.mk (blk_below (g := ah) (o := .cells #[.int .i64 ab, .slice aj ad.length ak, .slice al af.length am, .slice ao ae.length ap, .string ar, .bool az, .bool ax, .int .i64 aw] 28 (0, 0)) (zB ac.out) hb); have n2_ := Aside0.mk (blk_below (g := ag) (o := .cells #[.int .i64 ab, .slice aj ad.length ak, .slice al af.length am, .slice ao ae.length ap] 26 (0, 0)) (zB aa.out) hb); have n3_ := Aside0.mk (below_step (by repeat (first | (with_reducible first | exact HB.out | apply pA | apply pN | apply pD | refine pS ?_ au.out | refine pS ?_ ay.out) | exact HB.out)) hb); clear av; clear ac; clear aa; clear HB; have av := n0_; have ac := n1_; have aa := n2_; have HB := n3_; clear n0_ n1_ n2_ n3_; (try clear hb); (try clear hb2); (try clear hk); (try clear hi); obtain ⟨lc, bL, cg⟩ := Kd.V_slice av.out; subst cg))
          have n0_ := Aside0.mk (Kd.V_drew av.out)
          have n1_ := Aside0.mk (qD ac.out)
          have n2_ := Aside0.mk (qD aa.out)
          have n3_ := Aside0.mk (pD HB.out)
          clear av
          clear ac
          clear aa
          clear HB
          have av := n0_
          have ac := n1_
          have aa := n2_
          have HB := n3_
          clear n0_ n1_ n2_ n3_
          have p358 : 0 ≤ (0 : Int) := (by omega)
          have q358 : 0 < (ai.length : Int) := of_decide_eq_true (by first | (with_reducible assumption) | assumption)
          obtain ⟨aq, e358, hx358_0, hx358_1, hx358_2, hx358_3, hx358_4, hx358_5, hx358_6, hx358_7, hx358_8⟩ := at_T41 (Kd.V_reads' av.out).2.2 0 p358 q358
          cases e358
          have qi358 : (0 < ai.length) = True := eq_true (by omega)
          (try rw [show ((0 : Int)).toNat = 0 from rfl] at hx358_0)
          (try rw [show 0 * 9 = 0 from rfl] at hx358_0)
          (try rw [Addr.add_zero'] at hx358_0)
          (try rw [show ((0 : Int)).toNat = 0 from rfl] at hx358_1)
          (try rw [show 0 * 9 = 0 from rfl] at hx358_1)
          (try rw [Addr.add_zero'] at hx358_1)
          (try rw [show ((0 : Int)).toNat = 0 from rfl] at hx358_2)
          (try rw [show 0 * 9 = 0 from rfl] at hx358_2)
          (try rw [Addr.add_zero'] at hx358_2)
          (try rw [show ((0 : Int)).toNat = 0 from rfl] at hx358_3)
          (try rw [show 0 * 9 = 0 from rfl] at hx358_3)
          (try rw [Addr.add_zero'] at hx358_3)
          (try rw [show ((0 : Int)).toNat = 0 from rfl] at hx358_4)
          (try rw [show 0 * 9 = 0 from rfl] at hx358_4)
          (try rw [Addr.add_zero'] at hx358_4)
          (try rw [show ((0 : Int)).toNat = 0 from rfl] at hx358_5)
          (try rw [show 0 * 9 = 0 from rfl] at hx358_5)
          (try rw [Addr.add_zero'] at hx358_5)
          (try rw [show ((0 : Int)).toNat = 0 from rfl] at hx358_6)
          (try rw [show 0 * 9 = 0 from rfl] at hx358_6)
          (try rw [Addr.add_zero'] at hx358_6)
          (try rw [show ((0 : Int)).toNat = 0 from rfl] at hx358_7)
          (try rw [show 0 * 9 = 0 from rfl] at hx358_7)
          (try rw [Addr.add_zero'] at hx358_7)
          (try rw [show ((0 : Int)).toNat = 0 from rfl] at hx358_8)
          (try rw [show 0 * 9 = 0 from rfl] at hx358_8)
          (try rw [Addr.add_zero'] at hx358_8)
          replace p358 := eq_true p358
          replace q358 := eq_true q358
          refine start_ (n := 11) (S := fun w' => w'.cell? ⟨ag, 0, none⟩ = some (.int .i64 ab) ∧ w'.cell? ⟨ag, 1, none⟩ = some (.slice aj ad.length ak) ∧ w'.cell? ⟨ag, 2, none⟩ = some (.slice al af.length am) ∧ w'.cell? ⟨ag, 3, none⟩ = some (.slice ao ae.length ap) ∧ w'.cell? aq = some (.int .i64 ((rd_T41 ai 0).f0)) ∧ w'.cell? ⟨aq.block, aq.off + 1, none⟩ = some (.int .i64 ((rd_T41 ai 0).f1)) ∧ w'.cell? ⟨aq.block, aq.off + 2, none⟩ = some (.int .i64 ((rd_T41 ai 0).f2)) ∧ w'.cell? ⟨aq.block, aq.off + 3, none⟩ = some (.int .u32 ((rd_T41 ai 0).f3)) ∧ w'.cell? ⟨aq.block, aq.off + 4, none⟩ = some (.string ((rd_T41 ai 0).f4)) ∧ w'.cell? ⟨aq.block, aq.off + 5, none⟩ = some (.int .u64 ((rd_T41 ai 0).f5)) ∧ w'.cell? ⟨aq.block, aq.off + 6, none⟩ = some (.int .u64 ((rd_T41 ai 0).f6)) ∧ w'.cell? ⟨aq.block, aq.off + 7, none⟩ = some (.int .i64 ((rd_T41 ai 0).f7)) ∧ w'.cell? ⟨aq.block, aq.off + 8, none⟩ = some (.int .i64 ((rd_T41 ai 0).f8))) (ds := []) #[oO, oO, oO, oO, oO, oO, oO, oO, oO, oO, oO] (by kernel_rfl) rfl rfl ⟨(blk_cell aa.out 0).trans rfl, (blk_cell aa.out 1).trans rfl, (blk_cell aa.out 2).trans rfl, (blk_cell aa.out 3).trans rfl, hx358_0, hx358_1, hx358_2, hx358_3, hx358_4, hx358_5, hx358_6, hx358_7, hx358_8⟩ (fun hHeld => ?_); refine with_tabW portreevelaw16_GateOps.tab13 portreevelaw16_GateOps.bits13 (fun HT_ HW_ => ?_)
          generalize w78.drew = w80 at av ac aa HB hx358_0 hx358_1 hx358_2 hx358_3 hx358_4 hx358_5 hx358_6 hx358_7 hx358_8 hHeld ⊢
          refine pure_ (i := 1) (N := some 76) (v := ?_) (a' := ?_) #[oO, oI, oO, oO, oO, oO, oO, oO, oO, oO, oO] rfl rfl (any_of HT_.out (by kernel_rfl)) (fun _ _ _ h => h) (Or.inl ⟨by rfl, ?_⟩) ?_ ?_
          rotate_left
          ·intro w'
           go_simp
           with_reducible rfl
          rotate_left
          ·simp only [Act.put, sT, s0, s1, i64_w, i32_w]
           rfl
          refine pure_ (i := 2) (N := some 77) (v := ?_) (a' := ?_) #[oO, oI, oI, oO, oO, oO, oO, oO, oO, oO, oO] rfl rfl (any_of HT_.out (by kernel_rfl)) (fun _ _ _ h => h) (Or.inl ⟨by rfl, ?_⟩) ?_ ?_
          rotate_left
          ·intro w'
           go_simp
           with_reducible rfl
          rotate_left
          ·simp only [Act.put, sT, s0, s1, i64_w, i32_w]
           rfl
          refine take_ (i := 0) (N := some 75) (v := ?_) (a' := ?_) #[oI, oI, oI, oO, oO, oO, oO, oO, oO, oO, oO] rfl rfl (take_ofW HT_.out HW_.out (by kernel_rfl)) (fun _ _ _ h => h) (Or.inl ⟨by rfl, ?_⟩) hHeld ?_ ?_
          rotate_left
          ·rintro w' ⟨s0, s1, s2, s3, s4, s5, s6, s7, s8, s9, s10, s11, s12⟩
           go_simp
           with_reducible rfl
          rotate_left
          ·simp only [Act.put, sT, s0, s1, i64_w, i32_w]
           rfl
          refine take_ (i := 3) (N := some 78) (v := ?_) (a' := ?_) #[oI, oI, oI, oI, oO, oO, oO, oO, oO, oO, oO] rfl rfl (take_ofW HT_.out HW_.out (by kernel_rfl)) (fun _ _ _ h => h) (Or.inl ⟨by rfl, ?_⟩) hHeld ?_ ?_
          rotate_left
          ·rintro w' ⟨s0, s1, s2, s3, s4, s5, s6, s7, s8, s9, s10, s11, s12⟩
           go_simp
           with_reducible rfl
          rotate_left
          ·simp only [Act.put, sT, s0, s1, i64_w, i32_w]
           rfl
          refine join_ (σ := Value × Value × Value × Nat) 2 #[oI, oI, oI, oI, oI, oI, oI, oI, oI, oO, oO] (fun s_ => [(79, .tuple #[.agg #[.int .i64 aP, s_.1, s_.2.1, s_.2.2.1], .int .i64 ba]), (13, .pointer (some ⟨s_.2.2.2, 0, none⟩)), (74, .tuple #[.agg #[.int .i64 aP, s_.1, s_.2.1, s_.2.2.1], .int .i64 ba]), (80, .agg #[.int .i64 aP, s_.1, s_.2.1, s_.2.2.1]), (81, .int .i64 ba)]) (fun s_ w' => (w'.cell? ⟨ag, 0, none⟩ = some (.int .i64 ab) ∧ w'.cell? ⟨ag, 1, none⟩ = some (.slice aj ad.length ak) ∧ w'.cell? ⟨ag, 2, none⟩ = some (.slice al af.length am) ∧ w'.cell? ⟨ag, 3, none⟩ = some (.slice ao ae.length ap) ∧ w'.cell? aq = some (.int .i64 ((rd_T41 ai 0).f0)) ∧ w'.cell? ⟨aq.block, aq.off + 1, none⟩ = some (.int .i64 ((rd_T41 ai 0).f1)) ∧ w'.cell? ⟨aq.block, aq.off + 2, none⟩ = some (.int .i64 ((rd_T41 ai 0).f2)) ∧ w'.cell? ⟨aq.block, aq.off + 3, none⟩ = some (.int .u32 ((rd_T41 ai 0).f3)) ∧ w'.cell? ⟨aq.block, aq.off + 4, none⟩ = some (.string ((rd_T41 ai 0).f4)) ∧ w'.cell? ⟨aq.block, aq.off + 5, none⟩ = some (.int .u64 ((rd_T41 ai 0).f5)) ∧ w'.cell? ⟨aq.block, aq.off + 6, none⟩ = some (.int .u64 ((rd_T41 ai 0).f6)) ∧ w'.cell? ⟨aq.block, aq.off + 7, none⟩ = some (.int .i64 ((rd_T41 ai 0).f7)) ∧ w'.cell? ⟨aq.block, aq.off + 8, none⟩ = some (.int .i64 ((rd_T41 ai 0).f8))) ∧ (Kd.V k41 41 w' w.heap.size (fun k_ => k_ ≠ ah ∧ k_ ≠ ag ∧ k_ ≠ s_.2.2.2) (.slice (some aq) ai.length bL) ai) ∧ (Kd.V k76 76 w' w.heap.size (fun k_ => k_ ≠ ah ∧ k_ ≠ ag ∧ k_ ≠ s_.2.2.2) s_.1 aV) ∧ (Kd.V k72 72 w' w.heap.size (fun k_ => k_ ≠ ah ∧ k_ ≠ ag ∧ k_ ≠ s_.2.2.2) s_.2.1 aY) ∧ (Kd.V k64 64 w' w.heap.size (fun k_ => k_ ≠ ah ∧ k_ ≠ ag ∧ k_ ≠ s_.2.2.2) s_.2.2.1 a8) ∧ (w'.heap[ah]? = some (.cells #[.int .i64 ab, .slice aj ad.length ak, .slice al af.length am, .slice ao ae.length ap, .string ar, .bool az, .bool ax, .int .i64 aw] 28 (0, 0))) ∧ (w'.heap[ag]? = some (.cells #[.int .i64 ab, .slice aj ad.length ak, .slice al af.length am, .slice ao ae.length ap] 26 (0, 0))) ∧ (w'.heap[s_.2.2.2]? = some (.cells #[.int .i64 0, .slice none 0 0, .slice none 0 0, .slice none 0 0] 26 (0, 0))) ∧ (w.heap.size ≤ s_.2.2.2) ∧ (w.heap.size ≤ s_.2.2.2) ∧ (ah ≠ s_.2.2.2) ∧ (s_.2.2.2 ≠ ah) ∧ (ag ≠ s_.2.2.2) ∧ (s_.2.2.2 ≠ ag) ∧ (Below w.heap.size w w')) ?_ ?_
          rotate_left
          ·intro hCont
           refine two_ (i := 4) (j := 8) (Ni := some 79) (Nj := some 13) #[oI, oI, oI, oI, oI, oO, oO, oO, oO, oO, oO] #[oI, oI, oI, oI, oO, oO, oO, oO, oI, oO, oO] rfl rfl rfl rfl (two_of HT_.out (by kernel_rfl)) (by decide) (by decide) (fun K hK => ?_) (fun K hK => ?_)
           ·skip
            refine goes_ Try.func14 (by kernel_rfl) rfl #[.agg #[.int .i64 ab, .slice aj ad.length ak, .slice al af.length am, .slice ao ae.length ap], .agg #[.int .i64 ((rd_T41 ai 0).f0), .int .i64 ((rd_T41 ai 0).f1), .int .i64 ((rd_T41 ai 0).f2), .int .u32 ((rd_T41 ai 0).f3), .string ((rd_T41 ai 0).f4), .int .u64 ((rd_T41 ai 0).f5), .int .u64 ((rd_T41 ai 0).f6), .int .i64 ((rd_T41 ai 0).f7), .int .i64 ((rd_T41 ai 0).f8)]] (by rfl) rfl rfl (by (try simp only [List.map_toArray, List.map_cons, List.map_nil]); first | done | rfl | (simp only [List.length_drop, List.length_take]; rfl)) ?_
            with_reducible refine (portreeveref04_Apply.calls k ab (fun k_ => k_ < w.heap.size) _ _ ad (fun k_ => k_ < w.heap.size) _ _ af (fun k_ => k_ < w.heap.size) _ _ ae ((rd_T41 ai 0).f0) ((rd_T41 ai 0).f1) ((rd_T41 ai 0).f2) ((rd_T41 ai 0).f3) ((rd_T41 ai 0).f4) ((rd_T41 ai 0).f5) ((rd_T41 ai 0).f6) ((rd_T41 ai 0).f7) ((rd_T41 ai 0).f8) aP aV aY a8 ba _ ?side1 ?side2 ?side3 bl.out).mono ?_
            (case side1 => exact Kd.V_mk HC0_1.out (Kd.F_below (Kd.C_F k76_heap aQ.out) (by repeat (first | (with_reducible first | exact HB.out | apply pA | apply pN | apply pD | refine pS ?_ au.out | refine pS ?_ ay.out) | exact HB.out))))
            (case side2 => exact Kd.V_mk HC0_2.out (Kd.F_below (Kd.C_F k72_heap aR.out) (by repeat (first | (with_reducible first | exact HB.out | apply pA | apply pN | apply pD | refine pS ?_ au.out | refine pS ?_ ay.out) | exact HB.out))))
            (case side3 => exact Kd.V_mk HC0_3.out (Kd.F_below (Kd.C_F k64_heap aS.out) (by repeat (first | (with_reducible first | exact HB.out | apply pA | apply pN | apply pD | refine pS ?_ au.out | refine pS ?_ ay.out) | exact HB.out))))
            rintro e w81 ⟨v361, v364, v367, rfl, ho0, ho1, ho2, hb⟩
            have HS4_ := (hb.cell (World.block_lt_of_cell? _ _ (hHeld.2.2.2.2.1))).trans (hHeld.2.2.2.2.1)
            have HS5_ := (hb.cell (World.block_lt_of_cell? _ _ (hHeld.2.2.2.2.2.1))).trans (hHeld.2.2.2.2.2.1)
            have HS6_ := (hb.cell (World.block_lt_of_cell? _ _ (hHeld.2.2.2.2.2.2.1))).trans (hHeld.2.2.2.2.2.2.1)
            have HS7_ := (hb.cell (World.block_lt_of_cell? _ _ (hHeld.2.2.2.2.2.2.2.1))).trans (hHeld.2.2.2.2.2.2.2.1)
            have HS8_ := (hb.cell (World.block_lt_of_cell? _ _ (hHeld.2.2.2.2.2.2.2.2.1))).trans (hHeld.2.2.2.2.2.2.2.2.1)
            have HS9_ := (hb.cell (World.block_lt_of_cell? _ _ (hHeld.2.2.2.2.2.2.2.2.2.1))).trans (hHeld.2.2.2.2.2.2.2.2.2.1)
            have HS10_ := (hb.cell (World.block_lt_of_cell? _ _ (hHeld.2.2.2.2.2.2.2.2.2.2.1))).trans (hHeld.2.2.2.2.2.2.2.2.2.2.1)
            have HS11_ := (hb.cell (World.block_lt_of_cell? _ _ (hHeld.2.2.2.2.2.2.2.2.2.2.2.1))).trans (hHeld.2.2.2.2.2.2.2.2.2.2.2.1)
            have HS12_ := (hb.cell (World.block_lt_of_cell? _ _ (hHeld.2.2.2.2.2.2.2.2.2.2.2.2))).trans (hHeld.2.2.2.2.2.2.2.2.2.2.2.2)
            refine ⟨_, rfl, ?_⟩
            have n0_ := Aside0.mk (Kd.V_below (zV av.out) hb)
            have n1_ := Aside0.mk (Kd.V_lower (Kd.V_mono (ok' := fun k_ => k_ ≠ ah ∧ k_ ≠ ag) ho0 (fun k_ hk_ => ⟨Or.elim hk_ (fun hs_ => Or.elim hs_ (fun hs_ => fun e_ => Nat.not_le.2 hs_ (by rw [e_]; exact aD.out)) (fun hs_ => Or.elim hs_ (fun hs_ => fun e_ => Nat.not_le.2 hs_ (by rw [e_]; exact aD.out)) (fun hs_ => fun e_ => Nat.not_le.2 hs_ (by rw [e_]; exact aD.out)))) (fun hn_ => (Kd.freshB (g := ah) (o := .cells #[.int .i64 ab, .slice aj ad.length ak, .slice al af.length am, .slice ao ae.length ap, .string ar, .bool az, .bool ax, .int .i64 aw] 28 (0, 0)) (zB ac.out) k_ hn_)), Or.elim hk_ (fun hs_ => Or.elim hs_ (fun hs_ => fun e_ => Nat.not_le.2 hs_ (by rw [e_]; exact aE.out)) (fun hs_ => Or.elim hs_ (fun hs_ => fun e_ => Nat.not_le.2 hs_ (by rw [e_]; exact aE.out)) (fun hs_ => fun e_ => Nat.not_le.2 hs_ (by rw [e_]; exact aE.out)))) (fun hn_ => (Kd.freshB (g := ag) (o := .cells #[.int .i64 ab, .slice aj ad.length ak, .slice al af.length am, .slice ao ae.length ap] 26 (0, 0)) (zB aa.out) k_ hn_))⟩)) (below_size (by repeat (first | (with_reducible first | exact HB.out | apply pA | apply pN | apply pD | refine pS ?_ au.out | refine pS ?_ ay.out) | exact HB.out))))
            have n2_ := Aside0.mk (Kd.V_lower (Kd.V_mono (ok' := fun k_ => k_ ≠ ah ∧ k_ ≠ ag) ho1 (fun k_ hk_ => ⟨Or.elim hk_ (fun hs_ => Or.elim hs_ (fun hs_ => fun e_ => Nat.not_le.2 hs_ (by rw [e_]; exact aD.out)) (fun hs_ => Or.elim hs_ (fun hs_ => fun e_ => Nat.not_le.2 hs_ (by rw [e_]; exact aD.out)) (fun hs_ => fun e_ => Nat.not_le.2 hs_ (by rw [e_]; exact aD.out)))) (fun hn_ => (Kd.freshB (g := ah) (o := .cells #[.int .i64 ab, .slice aj ad.length ak, .slice al af.length am, .slice ao ae.length ap, .string ar, .bool az, .bool ax, .int .i64 aw] 28 (0, 0)) (zB ac.out) k_ hn_)), Or.elim hk_ (fun hs_ => Or.elim hs_ (fun hs_ => fun e_ => Nat.not_le.2 hs_ (by rw [e_]; exact aE.out)) (fun hs_ => Or.elim hs_ (fun hs_ => fun e_ => Nat.not_le.2 hs_ (by rw [e_]; exact aE.out)) (fun hs_ => fun e_ => Nat.not_le.2 hs_ (by rw [e_]; exact aE.out)))) (fun hn_ => (Kd.freshB (g := ag) (o := .cells #[.int .i64 ab, .slice aj ad.length ak, .slice al af.length am, .slice ao ae.length ap] 26 (0, 0)) (zB aa.out) k_ hn_))⟩)) (below_size (by repeat (first | (with_reducible first | exact HB.out | apply pA | apply pN | apply pD | refine pS ?_ au.out | refine pS ?_ ay.out) | exact HB.out))))
            have n3_ := Aside0.mk (Kd.V_lower (Kd.V_mono (ok' := fun k_ => k_ ≠ ah ∧ k_ ≠ ag) ho2 (fun k_ hk_ => ⟨Or.elim hk_ (fun hs_ => Or.elim hs_ (fun hs_ => fun e_ => Nat.not_le.2 hs_ (by rw [e_]; exact aD.out)) (fun hs_ => Or.elim hs_ (fun hs_ => fun e_ => Nat.not_le.2 hs_ (by rw [e_]; exact aD.out)) (fun hs_ => fun e_ => Nat.not_le.2 hs_ (by rw [e_]; exact aD.out)))) (fun hn_ => (Kd.freshB (g := ah) (o := .cells #[.int .i64 ab, .slice aj ad.length ak, .slice al af.length am, .slice ao ae.length ap, .string ar, .bool az, .bool ax, .int .i64 aw] 28 (0, 0)) (zB ac.out) k_ hn_)), Or.elim hk_ (fun hs_ => Or.elim hs_ (fun hs_ => fun e_ => Nat.not_le.2 hs_ (by rw [e_]; exact aE.out)) (fun hs_ => Or.elim hs_ (fun hs_ => fun e_ => Nat.not_le.2 hs_ (by rw [e_]; exact aE.out)) (fun hs_ => fun e_ => Nat.not_le.2 hs_ (by rw [e_]; exact aE.out)))) (fun hn_ => (Kd.freshB (g := ag) (o := .cells #[.int .i64 ab, .slice aj ad.length ak, .slice al af.length am, .slice ao ae.length ap] 26 (0, 0)) (zB aa.out) k_ hn_))⟩)) (below_size (by repeat (first | (with_reducible first | exact HB.out | apply pA | apply pN | apply pD | refine pS ?_ au.out | refine pS ?_ ay.out) | exact HB.out))))
            have n4_ := Aside0.mk (blk_below (g := ah) (o := .cells #[.int .i64 ab, .slice aj ad.length ak, .slice al af.length am, .slice ao ae.length ap, .string ar, .bool az, .bool ax, .int .i64 aw] 28 (0, 0)) (zB ac.out) hb)
            have n5_ := Aside0.mk (blk_below (g := ag) (o := .cells #[.int .i64 ab, .slice aj ad.length ak, .slice al af.length am, .slice ao ae.length ap] 26 (0, 0)) (zB aa.out) hb)
            have n6_ := Aside0.mk (below_step (by repeat (first | (with_reducible first | exact HB.out | apply pA | apply pN | apply pD | refine pS ?_ au.out | refine pS ?_ ay.out) | exact HB.out)) hb)
            clear av
            clear ac
            clear aa
            clear HB
            have av := n0_
            have aJ := n1_
            have aK := n2_
            have aL := n3_
            have ac := n4_
            have aa := n5_
            have HB := n6_
            clear n0_ n1_ n2_ n3_ n4_ n5_ n6_
            (try clear hb)
            (try clear hb2)
            (try clear hk)
            (try clear hi)
            (try clear ho0)
            (try clear ho1)
            (try clear ho2)
            refine hK.out _ _ ⟨(blk_cell aa.out 0).trans rfl, (blk_cell aa.out 1).trans rfl, (blk_cell aa.out 2).trans rfl, (blk_cell aa.out 3).trans rfl, HS4_, HS5_, HS6_, HS7_, HS8_, HS9_, HS10_, HS11_, HS12_⟩ (fun hHeld => ?_)
            clear hK K
            refine norm_ (a' := ?_) ?_ ?_
            rotate_left
            ·show Act.put _ (some 79) _ = _
             simp only [Act.put, sT, s0, s1, i64_w, i32_w]
             rfl
            refine pure_ (i := 5) (N := some 74) (v := ?_) (a' := ?_) #[oI, oI, oI, oI, oI, oI, oO, oO, oO, oO, oO] rfl rfl (any_of HT_.out (by kernel_rfl)) (fun _ _ _ h => h) (Or.inl ⟨by rfl, ?_⟩) ?_ ?_
            rotate_left
            ·intro w'
             go_simp
             with_reducible rfl
            rotate_left
            ·simp only [Act.put, sT, s0, s1, i64_w, i32_w]
             rfl
            refine pure_ (i := 6) (N := some 80) (v := ?_) (a' := ?_) #[oI, oI, oI, oI, oI, oI, oI, oO, oO, oO, oO] rfl rfl (any_of HT_.out (by kernel_rfl)) (fun _ _ _ h => h) (Or.inl ⟨by rfl, ?_⟩) ?_ ?_
            rotate_left
            ·intro w'
             go_simp
             with_reducible rfl
            rotate_left
            ·simp only [Act.put, sT, s0, s1, i64_w, i32_w]
             rfl
            refine pure_ (i := 7) (N := some 81) (v := ?_) (a' := ?_) #[oI, oI, oI, oI, oI, oI, oI, oI, oO, oO, oO] rfl rfl (any_of HT_.out (by kernel_rfl)) (fun _ _ _ h => h) (Or.inl ⟨by rfl, ?_⟩) ?_ ?_
            rotate_left
            ·intro w'
             go_simp
             with_reducible rfl
            rotate_left
            ·simp only [Act.put, sT, s0, s1, i64_w, i32_w]
             rfl
            refine one_ (i := 8) (N := some 13) #[oI, oI, oI, oI, oI, oI, oI, oI, oI, oO, oO] rfl rfl (one_of HT_.out (by kernel_rfl)) (by decide) (fun K hK => ?_)
            refine box_step ?hg (N := 13) ?hd (cs := #[.int .i64 0, .slice none 0 0, .slice none 0 0, .slice none 0 0]) (t := 26) ?hr ?_; (case hd => rfl); (case hg => rfl); (case hr => first | (go_simp; done) | (go_simp; rfl))
            intro an hg w82 hbox hb
            have HS4_ := (hb.cell (World.block_lt_of_cell? _ _ (hHeld.2.2.2.2.1))).trans (hHeld.2.2.2.2.1)
            have HS5_ := (hb.cell (World.block_lt_of_cell? _ _ (hHeld.2.2.2.2.2.1))).trans (hHeld.2.2.2.2.2.1)
            have HS6_ := (hb.cell (World.block_lt_of_cell? _ _ (hHeld.2.2.2.2.2.2.1))).trans (hHeld.2.2.2.2.2.2.1)
            have HS7_ := (hb.cell (World.block_lt_of_cell? _ _ (hHeld.2.2.2.2.2.2.2.1))).trans (hHeld.2.2.2.2.2.2.2.1)
            have HS8_ := (hb.cell (World.block_lt_of_cell? _ _ (hHeld.2.2.2.2.2.2.2.2.1))).trans (hHeld.2.2.2.2.2.2.2.2.1)
            have HS9_ := (hb.cell (World.block_lt_of_cell? _ _ (hHeld.2.2.2.2.2.2.2.2.2.1))).trans (hHeld.2.2.2.2.2.2.2.2.2.1)
            have HS10_ := (hb.cell (World.block_lt_of_cell? _ _ (hHeld.2.2.2.2.2.2.2.2.2.2.1))).trans (hHeld.2.2.2.2.2.2.2.2.2.2.1)
            have HS11_ := (hb.cell (World.block_lt_of_cell? _ _ (hHeld.2.2.2.2.2.2.2.2.2.2.2.1))).trans (hHeld.2.2.2.2.2.2.2.2.2.2.2.1)
            have HS12_ := (hb.cell (World.block_lt_of_cell? _ _ (hHeld.2.2.2.2.2.2.2.2.2.2.2.2))).trans (hHeld.2.2.2.2.2.2.2.2.2.2.2.2)
            have n0_ := Aside0.mk (Kd.V_below (Kd.V_elderB (zV av.out) an (Nat.le_of_eq hg.symm)) hb)
            have n1_ := Aside0.mk (Kd.V_below (Kd.V_elderB (zV aJ.out) an (Nat.le_of_eq hg.symm)) hb)
            have n2_ := Aside0.mk (Kd.V_below (Kd.V_elderB (zV aK.out) an (Nat.le_of_eq hg.symm)) hb)
            have n3_ := Aside0.mk (Kd.V_below (Kd.V_elderB (zV aL.out) an (Nat.le_of_eq hg.symm)) hb)
            have n4_ := Aside0.mk (blk_below (g := ah) (o := .cells #[.int .i64 ab, .slice aj ad.length ak, .slice al af.length am, .slice ao ae.length ap, .string ar, .bool az, .bool ax, .int .i64 aw] 28 (0, 0)) (zB ac.out) hb)
            have n5_ := Aside0.mk (blk_below (g := ag) (o := .cells #[.int .i64 ab, .slice aj ad.length ak, .slice al af.length am, .slice ao ae.length ap] 26 (0, 0)) (zB aa.out) hb)
            have n6_ := Aside0.mk (below_step (by repeat (first | (with_reducible first | exact HB.out | apply pA | apply pN | apply pD | refine pS ?_ au.out | refine pS ?_ ay.out) | exact HB.out)) hb)
            have n7_ := Aside0.mk (hbox)
            have n8_ := Aside0.mk ((by rw [hg]; exact (below_size (by repeat (first | (with_reducible first | exact HB.out | apply pA | apply pN | apply pD | refine pS ?_ au.out | refine pS ?_ ay.out) | exact HB.out))) : w.heap.size ≤ an))
            have n9_ := Aside0.mk ((by rw [hg]; exact (below_size (by repeat (first | (with_reducible first | exact HB.out | apply pA | apply pN | apply pD | refine pS ?_ au.out | refine pS ?_ ay.out) | exact HB.out))) : w.heap.size ≤ an))
            have n10_ := Aside0.mk ((by rw [hg]; exact Nat.ne_of_lt (blk_lt (g := ah) (o := .cells #[.int .i64 ab, .slice aj ad.length ak, .slice al af.length am, .slice ao ae.length ap, .string ar, .bool az, .bool ax, .int .i64 aw] 28 (0, 0)) (zB ac.out)) : ah ≠ an))
            have n11_ := Aside0.mk ((by rw [hg]; exact Nat.ne_of_gt (blk_lt (g := ah) (o := .cells #[.int .i64 ab, .slice aj ad.length ak, .slice al af.length am, .slice ao ae.length ap, .string ar, .bool az, .bool ax, .int .i64 aw] 28 (0, 0)) (zB ac.out)) : an ≠ ah))
            have n12_ := Aside0.mk ((by rw [hg]; exact Nat.ne_of_lt (blk_lt (g := ag) (o := .cells #[.int .i64 ab, .slice aj ad.length ak, .slice al af.length am, .slice ao ae.length ap] 26 (0, 0)) (zB aa.out)) : ag ≠ an))
            have n13_ := Aside0.mk ((by rw [hg]; exact Nat.ne_of_gt (blk_lt (g := ag) (o := .cells #[.int .i64 ab, .slice aj ad.length ak, .slice al af.length am, .slice ao ae.length ap] 26 (0, 0)) (zB aa.out)) : an ≠ ag))
            clear av
            clear aJ
            clear aK
            clear aL
            clear ac
            clear aa
            clear HB
            have av := n0_
            have aJ := n1_
            have aK := n2_
            have aL := n3_
            have ac := n4_
            have aa := n5_
            have HB := n6_
            have aC := n7_
            have aM := n8_
            have aI := n9_
            have aF := n10_
            have aG := n11_
            have aA := n12_
            have aH := n13_
            clear n0_ n1_ n2_ n3_ n4_ n5_ n6_ n7_ n8_ n9_ n10_ n11_ n12_ n13_
            clear hb hbox hg
            refine hK.out _ _ ⟨(blk_cell aa.out 0).trans rfl, (blk_cell aa.out 1).trans rfl, (blk_cell aa.out 2).trans rfl, (blk_cell aa.out 3).trans rfl, HS4_, HS5_, HS6_, HS7_, HS8_, HS9_, HS10_, HS11_, HS12_⟩ (fun hHeld => ?_)
            clear hK K
            refine norm_ (a' := ?_) ?_ ?_
            rotate_left
            ·show Act.put _ (some 13) _ = _
             simp only [Act.put, sT, s0, s1, i64_w, i32_w]
             rfl
            exact norm_ (by simp only [putAll, Act.put, sT, s0, s1]) (hCont (v361, v364, v367, an) _ ⟨hHeld, (zV (Kd.V_mono av.out (fun _ hk => ⟨hk.1.1, ⟨hk.1.2, hk.2⟩⟩))), (zV (Kd.V_mono aJ.out (fun _ hk => ⟨hk.1.1, ⟨hk.1.2, hk.2⟩⟩))), (zV (Kd.V_mono aK.out (fun _ hk => ⟨hk.1.1, ⟨hk.1.2, hk.2⟩⟩))), (zV (Kd.V_mono aL.out (fun _ hk => ⟨hk.1.1, ⟨hk.1.2, hk.2⟩⟩))), (zB ac.out), (zB aa.out), (zB aC.out), aM.out, aI.out, aF.out, aG.out, aA.out, aH.out, (by repeat (first | (with_reducible first | exact HB.out | apply pA | apply pN | apply pD | refine pS ?_ au.out | refine pS ?_ ay.out | refine pS ?_ aI.out) | exact HB.out))⟩)
           ·skip
            refine box_step ?hg (N := 13) ?hd (cs := #[.int .i64 0, .slice none 0 0, .slice none 0 0, .slice none 0 0]) (t := 26) ?hr ?_; (case hd => rfl); (case hg => rfl); (case hr => first | (go_simp; done) | (go_simp; rfl))
            intro an hg w81 hbox hb
            have HS4_ := (hb.cell (World.block_lt_of_cell? _ _ (hHeld.2.2.2.2.1))).trans (hHeld.2.2.2.2.1)
            have HS5_ := (hb.cell (World.block_lt_of_cell? _ _ (hHeld.2.2.2.2.2.1))).trans (hHeld.2.2.2.2.2.1)
            have HS6_ := (hb.cell (World.block_lt_of_cell? _ _ (hHeld.2.2.2.2.2.2.1))).trans (hHeld.2.2.2.2.2.2.1)
            have HS7_ := (hb.cell (World.block_lt_of_cell? _ _ (hHeld.2.2.2.2.2.2.2.1))).trans (hHeld.2.2.2.2.2.2.2.1)
            have HS8_ := (hb.cell (World.block_lt_of_cell? _ _ (hHeld.2.2.2.2.2.2.2.2.1))).trans (hHeld.2.2.2.2.2.2.2.2.1)
            have HS9_ := (hb.cell (World.block_lt_of_cell? _ _ (hHeld.2.2.2.2.2.2.2.2.2.1))).trans (hHeld.2.2.2.2.2.2.2.2.2.1)
            have HS10_ := (hb.cell (World.block_lt_of_cell? _ _ (hHeld.2.2.2.2.2.2.2.2.2.2.1))).trans (hHeld.2.2.2.2.2.2.2.2.2.2.1)
            have HS11_ := (hb.cell (World.block_lt_of_cell? _ _ (hHeld.2.2.2.2.2.2.2.2.2.2.2.1))).trans (hHeld.2.2.2.2.2.2.2.2.2.2.2.1)
            have HS12_ := (hb.cell (World.block_lt_of_cell? _ _ (hHeld.2.2.2.2.2.2.2.2.2.2.2.2))).trans (hHeld.2.2.2.2.2.2.2.2.2.2.2.2)
            have n0_ := Aside0.mk (Kd.V_below (Kd.V_elderB (zV av.out) an (Nat.le_of_eq hg.symm)) hb)
            have n1_ := Aside0.mk (blk_below (g := ah) (o := .cells #[.int .i64 ab, .slice aj ad.length ak, .slice al af.length am, .slice ao ae.length ap, .string ar, .bool az, .bool ax, .int .i64 aw] 28 (0, 0)) (zB ac.out) hb)
            have n2_ := Aside0.mk (blk_below (g := ag) (o := .cells #[.int .i64 ab, .slice aj ad.length ak, .slice al af.length am, .slice ao ae.length ap] 26 (0, 0)) (zB aa.out) hb)
            have n3_ := Aside0.mk (below_step (by repeat (first | (with_reducible first | exact HB.out | apply pA | apply pN | apply pD | refine pS ?_ au.out | refine pS ?_ ay.out) | exact HB.out)) hb)
            have n4_ := Aside0.mk (hbox)
            have n5_ := Aside0.mk ((by rw [hg]; exact (below_size (by repeat (first | (with_reducible first | exact HB.out | apply pA | apply pN | apply pD | refine pS ?_ au.out | refine pS ?_ ay.out) | exact HB.out))) : w.heap.size ≤ an))
            have n6_ := Aside0.mk ((by rw [hg]; exact (below_size (by repeat (first | (with_reducible first | exact HB.out | apply pA | apply pN | apply pD | refine pS ?_ au.out | refine pS ?_ ay.out) | exact HB.out))) : w.heap.size ≤ an))
            have n7_ := Aside0.mk ((by rw [hg]; exact Nat.ne_of_lt (blk_lt (g := ah) (o := .cells #[.int .i64 ab, .slice aj ad.length ak, .slice al af.length am, .slice ao ae.length ap, .string ar, .bool az, .bool ax, .int .i64 aw] 28 (0, 0)) (zB ac.out)) : ah ≠ an))
            have n8_ := Aside0.mk ((by rw [hg]; exact Nat.ne_of_gt (blk_lt (g := ah) (o := .cells #[.int .i64 ab, .slice aj ad.length ak, .slice al af.length am, .slice ao ae.length ap, .string ar, .bool az, .bool ax, .int .i64 aw] 28 (0, 0)) (zB ac.out)) : an ≠ ah))
            have n9_ := Aside0.mk ((by rw [hg]; exact Nat.ne_of_lt (blk_lt (g := ag) (o := .cells #[.int .i64 ab, .slice aj ad.length ak, .slice al af.length am, .slice ao ae.length ap] 26 (0, 0)) (zB aa.out)) : ag ≠ an))
            have n10_ := Aside0.mk ((by rw [hg]; exact Nat.ne_of_gt (blk_lt (g := ag) (o := .cells #[.int .i64 ab, .slice aj ad.length ak, .slice al af.length am, .slice ao ae.length ap] 26 (0, 0)) (zB aa.out)) : an ≠ ag))
            clear av
            clear ac
            clear aa
            clear HB
            have av := n0_
            have ac := n1_
            have aa := n2_
            have HB := n3_
            have aC := n4_
            have aM := n5_
            have aI := n6_
            have aF := n7_
            have aG := n8_
            have aA := n9_
            have aH := n10_
            clear n0_ n1_ n2_ n3_ n4_ n5_ n6_ n7_ n8_ n9_ n10_
            clear hb hbox hg
            refine hK.out _ _ ⟨(blk_cell aa.out 0).trans rfl, (blk_cell aa.out 1).trans rfl, (blk_cell aa.out 2).trans rfl, (blk_cell aa.out 3).trans rfl, HS4_, HS5_, HS6_, HS7_, HS8_, HS9_, HS10_, HS11_, HS12_⟩ (fun hHeld => ?_)
            clear hK K
            refine norm_ (a' := ?_) ?_ ?_
            rotate_left
            ·show Act.put _ (some 13) _ = _
             simp only [Act.put, sT, s0, s1, i64_w, i32_w]
             rfl
            refine one_ (i := 4) (N := some 79) #[oI, oI, oI, oI, oI, oO, oO, oO, oI, oO, oO] rfl rfl (one_of HT_.out (by kernel_rfl)) (by decide) (fun K hK => ?_)
            refine goes_ Try.func14 (by kernel_rfl) rfl #[.agg #[.int .i64 ab, .slice aj ad.length ak, .slice al af.length am, .slice ao ae.length ap], .agg #[.int .i64 ((rd_T41 ai 0).f0), .int .i64 ((rd_T41 ai 0).f1), .int .i64 ((rd_T41 ai 0).f2), .int .u32 ((rd_T41 ai 0).f3), .string ((rd_T41 ai 0).f4), .int .u64 ((rd_T41 ai 0).f5), .int .u64 ((rd_T41 ai 0).f6), .int .i64 ((rd_T41 ai 0).f7), .int .i64 ((rd_T41 ai 0).f8)]] (by rfl) rfl rfl (by (try simp only [List.map_toArray, List.map_cons, List.map_nil]); first | done | rfl | (simp only [List.length_drop, List.length_take]; rfl)) ?_
            with_reducible refine (portreeveref04_Apply.calls k ab (fun k_ => k_ < w.heap.size) _ _ ad (fun k_ => k_ < w.heap.size) _ _ af (fun k_ => k_ < w.heap.size) _ _ ae ((rd_T41 ai 0).f0) ((rd_T41 ai 0).f1) ((rd_T41 ai 0).f2) ((rd_T41 ai 0).f3) ((rd_T41 ai 0).f4) ((rd_T41 ai 0).f5) ((rd_T41 ai 0).f6) ((rd_T41 ai 0).f7) ((rd_T41 ai 0).f8) aP aV aY a8 ba _ ?side1 ?side2 ?side3 bl.out).mono ?_
            (case side1 => exact Kd.V_mk HC0_1.out (Kd.F_below (Kd.C_F k76_heap aQ.out) (by repeat (first | (with_reducible first | exact HB.out | apply pA | apply pN | apply pD | refine pS ?_ au.out | refine pS ?_ ay.out | refine pS ?_ aI.out) | exact HB.out))))
            (case side2 => exact Kd.V_mk HC0_2.out (Kd.F_below (Kd.C_F k72_heap aR.out) (by repeat (first | (with_reducible first | exact HB.out | apply pA | apply pN | apply pD | refine pS ?_ au.out | refine pS ?_ ay.out | refine pS ?_ aI.out) | exact HB.out))))
            (case side3 => exact Kd.V_mk HC0_3.out (Kd.F_below (Kd.C_F k64_heap aS.out) (by repeat (first | (with_reducible first | exact HB.out | apply pA | apply pN | apply pD | refine pS ?_ au.out | refine pS ?_ ay.out | refine pS ?_ aI.out) | exact HB.out))))
            rintro e w82 ⟨v361, v364, v367, rfl, ho0, ho1, ho2, hb⟩
            have HS4_ := (hb.cell (World.block_lt_of_cell? _ _ (hHeld.2.2.2.2.1))).trans (hHeld.2.2.2.2.1)
            have HS5_ := (hb.cell (World.block_lt_of_cell? _ _ (hHeld.2.2.2.2.2.1))).trans (hHeld.2.2.2.2.2.1)
            have HS6_ := (hb.cell (World.block_lt_of_cell? _ _ (hHeld.2.2.2.2.2.2.1))).trans (hHeld.2.2.2.2.2.2.1)
            have HS7_ := (hb.cell (World.block_lt_of_cell? _ _ (hHeld.2.2.2.2.2.2.2.1))).trans (hHeld.2.2.2.2.2.2.2.1)
            have HS8_ := (hb.cell (World.block_lt_of_cell? _ _ (hHeld.2.2.2.2.2.2.2.2.1))).trans (hHeld.2.2.2.2.2.2.2.2.1)
            have HS9_ := (hb.cell (World.block_lt_of_cell? _ _ (hHeld.2.2.2.2.2.2.2.2.2.1))).trans (hHeld.2.2.2.2.2.2.2.2.2.1)
            have HS10_ := (hb.cell (World.block_lt_of_cell? _ _ (hHeld.2.2.2.2.2.2.2.2.2.2.1))).trans (hHeld.2.2.2.2.2.2.2.2.2.2.1)
            have HS11_ := (hb.cell (World.block_lt_of_cell? _ _ (hHeld.2.2.2.2.2.2.2.2.2.2.2.1))).trans (hHeld.2.2.2.2.2.2.2.2.2.2.2.1)
            have HS12_ := (hb.cell (World.block_lt_of_cell? _ _ (hHeld.2.2.2.2.2.2.2.2.2.2.2.2))).trans (hHeld.2.2.2.2.2.2.2.2.2.2.2.2)
            refine ⟨_, rfl, ?_⟩
            have n0_ := Aside0.mk (Kd.V_below (zV av.out) hb)
            have n1_ := Aside0.mk (Kd.V_lower (Kd.V_mono (ok' := fun k_ => k_ ≠ ah ∧ k_ ≠ ag ∧ k_ ≠ an) ho0 (fun k_ hk_ => ⟨Or.elim hk_ (fun hs_ => Or.elim hs_ (fun hs_ => fun e_ => Nat.not_le.2 hs_ (by rw [e_]; exact aD.out)) (fun hs_ => Or.elim hs_ (fun hs_ => fun e_ => Nat.not_le.2 hs_ (by rw [e_]; exact aD.out)) (fun hs_ => fun e_ => Nat.not_le.2 hs_ (by rw [e_]; exact aD.out)))) (fun hn_ => (Kd.freshB (g := ah) (o := .cells #[.int .i64 ab, .slice aj ad.length ak, .slice al af.length am, .slice ao ae.length ap, .string ar, .bool az, .bool ax, .int .i64 aw] 28 (0, 0)) (zB ac.out) k_ hn_)), Or.elim hk_ (fun hs_ => Or.elim hs_ (fun hs_ => fun e_ => Nat.not_le.2 hs_ (by rw [e_]; exact aE.out)) (fun hs_ => Or.elim hs_ (fun hs_ => fun e_ => Nat.not_le.2 hs_ (by rw [e_]; exact aE.out)) (fun hs_ => fun e_ => Nat.not_le.2 hs_ (by rw [e_]; exact aE.out)))) (fun hn_ => (Kd.freshB (g := ag) (o := .cells #[.int .i64 ab, .slice aj ad.length ak, .slice al af.length am, .slice ao ae.length ap] 26 (0, 0)) (zB aa.out) k_ hn_)), Or.elim hk_ (fun hs_ => Or.elim hs_ (fun hs_ => fun e_ => Nat.not_le.2 hs_ (by rw [e_]; exact aM.out)) (fun hs_ => Or.elim hs_ (fun hs_ => fun e_ => Nat.not_le.2 hs_ (by rw [e_]; exact aM.out)) (fun hs_ => fun e_ => Nat.not_le.2 hs_ (by rw [e_]; exact aM.out)))) (fun hn_ => (Kd.freshB (g := an) (o := .cells #[.int .i64 0, .slice none 0 0, .slice none 0 0, .slice none 0 0] 26 (0, 0)) (zB aC.out) k_ hn_))⟩)) (below_size (by repeat (first | (with_reducible first | exact HB.out | apply pA | apply pN | apply pD | refine pS ?_ au.out | refine pS ?_ ay.out | refine pS ?_ aI.out) | exact HB.out))))
            have n2_ := Aside0.mk (Kd.V_lower (Kd.V_mono (ok' := fun k_ => k_ ≠ ah ∧ k_ ≠ ag ∧ k_ ≠ an) ho1 (fun k_ hk_ => ⟨Or.elim hk_ (fun hs_ => Or.elim hs_ (fun hs_ => fun e_ => Nat.not_le.2 hs_ (by rw [e_]; exact aD.out)) (fun hs_ => Or.elim hs_ (fun hs_ => fun e_ => Nat.not_le.2 hs_ (by rw [e_]; exact aD.out)) (fun hs_ => fun e_ => Nat.not_le.2 hs_ (by rw [e_]; exact aD.out)))) (fun hn_ => (Kd.freshB (g := ah) (o := .cells #[.int .i64 ab, .slice aj ad.length ak, .slice al af.length am, .slice ao ae.length ap, .string ar, .bool az, .bool ax, .int .i64 aw] 28 (0, 0)) (zB ac.out) k_ hn_)), Or.elim hk_ (fun hs_ => Or.elim hs_ (fun hs_ => fun e_ => Nat.not_le.2 hs_ (by rw [e_]; exact aE.out)) (fun hs_ => Or.elim hs_ (fun hs_ => fun e_ => Nat.not_le.2 hs_ (by rw [e_]; exact aE.out)) (fun hs_ => fun e_ => Nat.not_le.2 hs_ (by rw [e_]; exact aE.out)))) (fun hn_ => (Kd.freshB (g := ag) (o := .cells #[.int .i64 ab, .slice aj ad.length ak, .slice al af.length am, .slice ao ae.length ap] 26 (0, 0)) (zB aa.out) k_ hn_)), Or.elim hk_ (fun hs_ => Or.elim hs_ (fun hs_ => fun e_ => Nat.not_le.2 hs_ (by rw [e_]; exact aM.out)) (fun hs_ => Or.elim hs_ (fun hs_ => fun e_ => Nat.not_le.2 hs_ (by rw [e_]; exact aM.out)) (fun hs_ => fun e_ => Nat.not_le.2 hs_ (by rw [e_]; exact aM.out)))) (fun hn_ => (Kd.freshB (g := an) (o := .cells #[.int .i64 0, .slice none 0 0, .slice none 0 0, .slice none 0 0] 26 (0, 0)) (zB aC.out) k_ hn_))⟩)) (below_size (by repeat (first | (with_reducible first | exact HB.out | apply pA | apply pN | apply pD | refine pS ?_ au.out | refine pS ?_ ay.out | refine pS ?_ aI.out) | exact HB.out))))
            have n3_ := Aside0.mk (Kd.V_lower (Kd.V_mono (ok' := fun k_ => k_ ≠ ah ∧ k_ ≠ ag ∧ k_ ≠ an) ho2 (fun k_ hk_ => ⟨Or.elim hk_ (fun hs_ => Or.elim hs_ (fun hs_ => fun e_ => Nat.not_le.2 hs_ (by rw [e_]; exact aD.out)) (fun hs_ => Or.elim hs_ (fun hs_ => fun e_ => Nat.not_le.2 hs_ (by rw [e_]; exact aD.out)) (fun hs_ => fun e_ => Nat.not_le.2 hs_ (by rw [e_]; exact aD.out)))) (fun hn_ => (Kd.freshB (g := ah) (o := .cells #[.int .i64 ab, .slice aj ad.length ak, .slice al af.length am, .slice ao ae.length ap, .string ar, .bool az, .bool ax, .int .i64 aw] 28 (0, 0)) (zB ac.out) k_ hn_)), Or.elim hk_ (fun hs_ => Or.elim hs_ (fun hs_ => fun e_ => Nat.not_le.2 hs_ (by rw [e_]; exact aE.out)) (fun hs_ => Or.elim hs_ (fun hs_ => fun e_ => Nat.not_le.2 hs_ (by rw [e_]; exact aE.out)) (fun hs_ => fun e_ => Nat.not_le.2 hs_ (by rw [e_]; exact aE.out)))) (fun hn_ => (Kd.freshB (g := ag) (o := .cells #[.int .i64 ab, .slice aj ad.length ak, .slice al af.length am, .slice ao ae.length ap] 26 (0, 0)) (zB aa.out) k_ hn_)), Or.elim hk_ (fun hs_ => Or.elim hs_ (fun hs_ => fun e_ => Nat.not_le.2 hs_ (by rw [e_]; exact aM.out)) (fun hs_ => Or.elim hs_ (fun hs_ => fun e_ => Nat.not_le.2 hs_ (by rw [e_]; exact aM.out)) (fun hs_ => fun e_ => Nat.not_le.2 hs_ (by rw [e_]; exact aM.out)))) (fun hn_ => (Kd.freshB (g := an) (o := .cells #[.int .i64 0, .slice none 0 0, .slice none 0 0, .slice none 0 0] 26 (0, 0)) (zB aC.out) k_ hn_))⟩)) (below_size (by repeat (first | (with_reducible first | exact HB.out | apply pA | apply pN | apply pD | refine pS ?_ au.out | refine pS ?_ ay.out | refine pS ?_ aI.out) | exact HB.out))))
            have n4_ := Aside0.mk (blk_below (g := ah) (o := .cells #[.int .i64 ab, .slice aj ad.length ak, .slice al af.length am, .slice ao ae.length ap, .string ar, .bool az, .bool ax, .int .i64 aw] 28 (0, 0)) (zB ac.out) hb)
            have n5_ := Aside0.mk (blk_below (g := ag) (o := .cells #[.int .i64 ab, .slice aj ad.length ak, .slice al af.length am, .slice ao ae.length ap] 26 (0, 0)) (zB aa.out) hb)
            have n6_ := Aside0.mk (blk_below (g := an) (o := .cells #[.int .i64 0, .slice none 0 0, .slice none 0 0, .slice none 0 0] 26 (0, 0)) (zB aC.out) hb)
            have n7_ := Aside0.mk (below_step (by repeat (first | (with_reducible first | exact HB.out | apply pA | apply pN | apply pD | refine pS ?_ au.out | refine pS ?_ ay.out | refine pS ?_ aI.out) | exact HB.out)) hb)
            clear av
            clear ac
            clear aa
            clear aC
            clear HB
            have av := n0_
            have aJ := n1_
            have aK := n2_
            have aL := n3_
            have ac := n4_
            have aa := n5_
            have aC := n6_
            have HB := n7_
            clear n0_ n1_ n2_ n3_ n4_ n5_ n6_ n7_
            (try clear hb)
            (try clear hb2)
            (try clear hk)
            (try clear hi)
            (try clear ho0)
            (try clear ho1)
            (try clear ho2)
            refine hK.out _ _ ⟨(blk_cell aa.out 0).trans rfl, (blk_cell aa.out 1).trans rfl, (blk_cell aa.out 2).trans rfl, (blk_cell aa.out 3).trans rfl, HS4_, HS5_, HS6_, HS7_, HS8_, HS9_, HS10_, HS11_, HS12_⟩ (fun hHeld => ?_)
            clear hK K
            refine norm_ (a' := ?_) ?_ ?_
            rotate_left
            ·show Act.put _ (some 79) _ = _
             simp only [Act.put, sT, s0, s1, i64_w, i32_w]
             rfl
            refine pure_ (i := 5) (N := some 74) (v := ?_) (a' := ?_) #[oI, oI, oI, oI, oI, oI, oO, oO, oI, oO, oO] rfl rfl (any_of HT_.out (by kernel_rfl)) (fun _ _ _ h => h) (Or.inl ⟨by rfl, ?_⟩) ?_ ?_
            rotate_left
            ·intro w'
             go_simp
             with_reducible rfl
            rotate_left
            ·simp only [Act.put, sT, s0, s1, i64_w, i32_w]
             rfl
            refine pure_ (i := 6) (N := some 80) (v := ?_) (a' := ?_) #[oI, oI, oI, oI, oI, oI, oI, oO, oI, oO, oO] rfl rfl (any_of HT_.out (by kernel_rfl)) (fun _ _ _ h => h) (Or.inl ⟨by rfl, ?_⟩) ?_ ?_
            rotate_left
            ·intro w'
             go_simp
             with_reducible rfl
            rotate_left
            ·simp only [Act.put, sT, s0, s1, i64_w, i32_w]
             rfl
            refine pure_ (i := 7) (N := some 81) (v := ?_) (a' := ?_) #[oI, oI, oI, oI, oI, oI, oI, oI, oI, oO, oO] rfl rfl (any_of HT_.out (by kernel_rfl)) (fun _ _ _ h => h) (Or.inl ⟨by rfl, ?_⟩) ?_ ?_
            rotate_left
            ·intro w'
             go_simp
             with_reducible rfl
            rotate_left
            ·simp only [Act.put, sT, s0, s1, i64_w, i32_w]
             rfl
            exact norm_ (by simp only [putAll, Act.put, sT, s0, s1]) (hCont (v361, v364, v367, an) _ ⟨hHeld, (zV (Kd.V_mono av.out (fun _ hk => ⟨hk.1.1, ⟨hk.1.2, hk.2⟩⟩))), (zV aJ.out), (zV aK.out), (zV aL.out), (zB ac.out), (zB aa.out), (zB aC.out), aM.out, aI.out, aF.out, aG.out, aA.out, aH.out, (by repeat (first | (with_reducible first | exact HB.out | apply pA | apply pN | apply pD | refine pS ?_ au.out | refine pS ?_ ay.out | refine pS ?_ aI.out) | exact HB.out))⟩)
          rintro ⟨v361, v364, v367, an⟩ w83 ⟨hS_, h0_, h1_, h2_, h3_, h4_, h5_, h6_, h7_, h8_, h9_, h10_, h11_, h12_, h13_⟩
          have n0_ : Aside0 (Kd.V k41 41 w83 w.heap.size (fun k_ => k_ ≠ ah ∧ k_ ≠ ag ∧ k_ ≠ an) (.slice (some aq) ai.length bL) ai) := ⟨h0_⟩
          have n1_ : Aside0 (Kd.V k76 76 w83 w.heap.size (fun k_ => k_ ≠ ah ∧ k_ ≠ ag ∧ k_ ≠ an) v361 aV) := ⟨h1_⟩
          have n2_ : Aside0 (Kd.V k72 72 w83 w.heap.size (fun k_ => k_ ≠ ah ∧ k_ ≠ ag ∧ k_ ≠ an) v364 aY) := ⟨h2_⟩
          have n3_ : Aside0 (Kd.V k64 64 w83 w.heap.size (fun k_ => k_ ≠ ah ∧ k_ ≠ ag ∧ k_ ≠ an) v367 a8) := ⟨h3_⟩
          have n4_ : Aside0 (w83.heap[ah]? = some (.cells #[.int .i64 ab, .slice aj ad.length ak, .slice al af.length am, .slice ao ae.length ap, .string ar, .bool az, .bool ax, .int .i64 aw] 28 (0, 0))) := ⟨h4_⟩
          have n5_ : Aside0 (w83.heap[ag]? = some (.cells #[.int .i64 ab, .slice aj ad.length ak, .slice al af.length am, .slice ao ae.length ap] 26 (0, 0))) := ⟨h5_⟩
          have n6_ : Aside0 (w83.heap[an]? = some (.cells #[.int .i64 0, .slice none 0 0, .slice none 0 0, .slice none 0 0] 26 (0, 0))) := ⟨h6_⟩
          have n7_ : Aside0 (w.heap.size ≤ an) := ⟨h7_⟩
          have n8_ : Aside0 (w.heap.size ≤ an) := ⟨h8_⟩
          have n9_ : Aside0 (ah ≠ an) := ⟨h9_⟩
          have n10_ : Aside0 (an ≠ ah) := ⟨h10_⟩
          have n11_ : Aside0 (ag ≠ an) := ⟨h11_⟩
          have n12_ : Aside0 (an ≠ ag) := ⟨h12_⟩
          have n13_ : Aside0 (Below w.heap.size w w83) := ⟨h13_⟩
          clear av
          clear ac
          clear aa
          clear HB
          clear h0_ h1_ h2_ h3_ h4_ h5_ h6_ h7_ h8_ h9_ h10_ h11_ h12_ h13_
          have av := n0_
          have aJ := n1_
          have aK := n2_
          have aL := n3_
          have ac := n4_
          have aa := n5_
          have aC := n6_
          have aM := n7_
          have aI := n8_
          have aF := n9_
          have aG := n10_
          have aA := n11_
          have aH := n12_
          have HB := n13_
          clear n0_ n1_ n2_ n3_ n4_ n5_ n6_ n7_ n8_ n9_ n10_ n11_ n12_ n13_
          have hHeld : w83.cell? ⟨ag, 0, none⟩ = some (.int .i64 ab) ∧ w83.cell? ⟨ag, 1, none⟩ = some (.slice aj ad.length ak) ∧ w83.cell? ⟨ag, 2, none⟩ = some (.slice al af.length am) ∧ w83.cell? ⟨ag, 3, none⟩ = some (.slice ao ae.length ap) ∧ w83.cell? aq = some (.int .i64 ((rd_T41 ai 0).f0)) ∧ w83.cell? ⟨aq.block, aq.off + 1, none⟩ = some (.int .i64 ((rd_T41 ai 0).f1)) ∧ w83.cell? ⟨aq.block, aq.off + 2, none⟩ = some (.int .i64 ((rd_T41 ai 0).f2)) ∧ w83.cell? ⟨aq.block, aq.off + 3, none⟩ = some (.int .u32 ((rd_T41 ai 0).f3)) ∧ w83.cell? ⟨aq.block, aq.off + 4, none⟩ = some (.string ((rd_T41 ai 0).f4)) ∧ w83.cell? ⟨aq.block, aq.off + 5, none⟩ = some (.int .u64 ((rd_T41 ai 0).f5)) ∧ w83.cell? ⟨aq.block, aq.off + 6, none⟩ = some (.int .u64 ((rd_T41 ai 0).f6)) ∧ w83.cell? ⟨aq.block, aq.off + 7, none⟩ = some (.int .i64 ((rd_T41 ai 0).f7)) ∧ w83.cell? ⟨aq.block, aq.off + 8, none⟩ = some (.int .i64 ((rd_T41 ai 0).f8)) := hS_
          obtain ⟨bn, bm, bM⟩ := Kd.V_slice aJ.out
          (first | subst bM | (injection bM with f1_ f2_ f3_; have f4_ := f1_.symm; have f5_ := f3_.symm; clear f1_ f2_ f3_; subst f4_; subst f5_))
          obtain ⟨bu, bo, bN⟩ := Kd.V_slice aK.out
          (first | subst bN | (injection bN with f1_ f2_ f3_; have f4_ := f1_.symm; have f5_ := f3_.symm; clear f1_ f2_ f3_; subst f4_; subst f5_))
          obtain ⟨bO, bv, bP⟩ := Kd.V_slice aL.out
          (first | subst bP | (injection bP with f1_ f2_ f3_; have f4_ := f1_.symm; have f5_ := f3_.symm; clear f1_ f2_ f3_; subst f4_; subst f5_))
          refine norm_ (a' := ?_) ?_ ?_
          rotate_left
          ·simp only [putAll, Act.put, sT, s0, s1]
           rfl
          refine one_ (i := 9) (N := none) #[oI, oI, oI, oI, oI, oI, oI, oI, oI, oI, oO] rfl rfl (one_of HT_.out (by kernel_rfl)) (by decide) (fun K hK => ?_)
          have hs84 : w83.cell? ⟨an, 0, none⟩ = some (.int .i64 0) := (blk_cell aC.out 0).trans rfl
          have hfs84 := blk_frozen aC.out 0
          have hns84_0 := aF.out
          have hns84_1 := aA.out
          have hms84_0 := aG.out
          have hms84_1 := aH.out
          have hs86 : w83.cell? ⟨an, 1, none⟩ = some (.slice none 0 0) := (blk_cell aC.out 1).trans rfl
          have hfs86 := blk_frozen aC.out 1
          have hns86_0 := aF.out
          have hns86_1 := aA.out
          have hms86_0 := aG.out
          have hms86_1 := aH.out
          have hs88 : w83.cell? ⟨an, 2, none⟩ = some (.slice none 0 0) := (blk_cell aC.out 2).trans rfl
          have hfs88 := blk_frozen aC.out 2
          have hns88_0 := aF.out
          have hns88_1 := aA.out
          have hms88_0 := aG.out
          have hms88_1 := aH.out
          have hs90 : w83.cell? ⟨an, 3, none⟩ = some (.slice none 0 0) := (blk_cell aC.out 3).trans rfl
          have hfs90 := blk_frozen aC.out 3
          have hns90_0 := aF.out
          have hns90_1 := aA.out
          have hms90_0 := aG.out
          have hms90_1 := aH.out
          refine skip_ (w1 := ?_) (by rfl) rfl ?_ ?_
          rotate_left
          ·go_simp
           rfl
          refine hK.out _ _ ⟨(fC aA.out hHeld.1), (fC aA.out hHeld.2.1), (fC aA.out hHeld.2.2.1), (fC aA.out hHeld.2.2.2.1), (fC (g1 := an) (by have z_ := Kd.own_blk (Kd.V_away av.out (fun _ hk => hk.2.2)); first | exact z_ | (rw [add_block]; exact z_) | (show (Addr.add _ _).block ≠ _; rw [add_block]; exact z_)) hHeld.2.2.2.2.1), (fC (g1 := an) (by have z_ := Kd.own_blk (Kd.V_away av.out (fun _ hk => hk.2.2)); first | exact z_ | (rw [add_block]; exact z_) | (show (Addr.add _ _).block ≠ _; rw [add_block]; exact z_)) hHeld.2.2.2.2.2.1), (fC (g1 := an) (by have z_ := Kd.own_blk (Kd.V_away av.out (fun _ hk => hk.2.2)); first | exact z_ | (rw [add_block]; exact z_) | (show (Addr.add _ _).block ≠ _; rw [add_block]; exact z_)) hHeld.2.2.2.2.2.2.1), (fC (g1 := an) (by have z_ := Kd.own_blk (Kd.V_away av.out (fun _ hk => hk.2.2)); first | exact z_ | (rw [add_block]; exact z_) | (show (Addr.add _ _).block ≠ _; rw [add_block]; exact z_)) hHeld.2.2.2.2.2.2.2.1), (fC (g1 := an) (by have z_ := Kd.own_blk (Kd.V_away av.out (fun _ hk => hk.2.2)); first | exact z_ | (rw [add_block]; exact z_) | (show (Addr.add _ _).block ≠ _; rw [add_block]; exact z_)) hHeld.2.2.2.2.2.2.2.2.1), (fC (g1 := an) (by have z_ := Kd.own_blk (Kd.V_away av.out (fun _ hk => hk.2.2)); first | exact z_ | (rw [add_block]; exact z_) | (show (Addr.add _ _).block ≠ _; rw [add_block]; exact z_)) hHeld.2.2.2.2.2.2.2.2.2.1), (fC (g1 := an) (by have z_ := Kd.own_blk (Kd.V_away av.out (fun _ hk => hk.2.2)); first | exact z_ | (rw [add_block]; exact z_) | (show (Addr.add _ _).block ≠ _; rw [add_block]; exact z_)) hHeld.2.2.2.2.2.2.2.2.2.2.1), (fC (g1 := an) (by have z_ := Kd.own_blk (Kd.V_away av.out (fun _ hk => hk.2.2)); first | exact z_ | (rw [add_block]; exact z_) | (show (Addr.add _ _).block ≠ _; rw [add_block]; exact z_)) hHeld.2.2.2.2.2.2.2.2.2.2.2.1), (fC (g1 := an) (by have z_ := Kd.own_blk (Kd.V_away av.out (fun _ hk => hk.2.2)); first | exact z_ | (rw [add_block]; exact z_) | (show (Addr.add _ _).block ≠ _; rw [add_block]; exact z_)) hHeld.2.2.2.2.2.2.2.2.2.2.2.2)⟩ (fun hHeld => ?_)
          clear hK K
          refine pure_ (i := 10) (N := some 14) (v := ?_) (a' := ?_) #[oI, oI, oI, oI, oI, oI, oI, oI, oI, oI, oI] rfl rfl (any_of HT_.out (by kernel_rfl)) (fun _ _ _ h => h) (Or.inl ⟨by rfl, ?_⟩) ?_ ?_
          rotate_left
          ·intro w'
           go_simp
           with_reducible rfl
          rotate_left
          ·simp only [Act.put, sT, s0, s1, i64_w, i32_w]
           rfl
          refine done_ (done_of HT_.out (by kernel_rfl)) ?_
          have kW := aG.out
          have kX := aF.out
          have kY := aH.out
          have kZ := aA.out
          obtain ⟨kb, kc, kd, ke, kf, kg, kh, ki⟩ := bk4 aC.out
          try go_wp2_with (first | ((with_reducible refine gate_callee (f := 12) rfl ?_); refine goesL_ (some 85) rfl rfl Try.func12 (by kernel_rfl) rfl #[.agg #[.int .i64 aP, .slice bn aV.length bm, .slice bu aY.length bo, .slice bO a8.length bv], .string ar] rfl (by (try simp only [List.map_toArray, List.map_cons, List.map_nil]); first | done | rfl | (simp only [List.length_drop, List.length_take]; rfl)) ?_; (with_reducible refine (gate_Failed.calls aP _ _ aV _ _ aY _ _ a8 ar bc bt _ ?side1 ?side2 ?side3 ?side4 ?side5 ?side6 bw.out).mono ?_); (case side1 => refine (Kd.V_reads' (e := 76) (base := w.heap.size) (ok := fun k_ => (k_ ≠ ah ∧ (k_ ≠ ag ∧ k_ ≠ an))) (n := aV.length) (c := bm) ?_).2.2; exact (fV aJ.out (fun k_ hk => (⟨hk, hk.2.2⟩ : _ ∧ k_ ≠ an)) (fun _ h_ => h_.1))); (case side2 => exact (Kd.V_reads' aJ.out).2.1); (case side3 => refine (Kd.V_reads' (e := 72) (base := w.heap.size) (ok := fun k_ => (k_ ≠ ah ∧ (k_ ≠ ag ∧ k_ ≠ an))) (n := aY.length) (c := bo) ?_).2.2; exact (fV aK.out (fun k_ hk => (⟨hk, hk.2.2⟩ : _ ∧ k_ ≠ an)) (fun _ h_ => h_.1))); (case side4 => exact (Kd.V_reads' aK.out).2.1); (case side5 => refine (Kd.V_reads' (e := 64) (base := w.heap.size) (ok := fun k_ => (k_ ≠ ah ∧ (k_ ≠ ag ∧ k_ ≠ an))) (n := a8.length) (c := bv) ?_).2.2; exact (fV aL.out (fun k_ hk => (⟨hk, hk.2.2⟩ : _ ∧ k_ ≠ an)) (fun _ h_ => h_.1))); (case side6 => exact (Kd.V_reads' aL.out).2.1); rintro e w94 ⟨rfl, hb⟩; refine ⟨_, rfl, ?_⟩; have n0_ := Aside0.mk (Kd.V_below (fV av.out (fun k_ hk => (⟨hk, hk.2.2⟩ : _ ∧ k_ ≠ an)) (fun _ h_ => h_.1)) hb); have n1_ := Aside0.mk (Kd.V_below (fV aJ.out (fun k_ hk => (⟨hk, hk.2.2⟩ : _ ∧ k_ ≠ an)) (fun _ h_ => h_.1)) hb); have n2_ := Aside0.mk (Kd.V_below (fV aK.out (fun k_ hk => (⟨hk, hk.2.2⟩ : _ ∧ k_ ≠ an)) (fun _ h_ => h_.1)) hb); have n3_ := Aside0.mk (Kd.V_below (fV aL.out (fun k_ hk => (⟨hk, hk.2.2⟩ : _ ∧ k_ ≠ an)) (fun _ h_ => h_.1)) hb); have n4_ := Aside0.mk (blk_below (g := ah) (o := .cells #[.int .i64 ab, .slice aj ad.length ak, .slice al af.length am, .slice ao ae.length ap, .string ar, .bool az, .bool ax, .int .i64 aw] 28 (0, 0)) (fB aF.out ac.out) hb); have n5_ := Aside0.mk (blk_below (g := ag) (o := .cells #[.int .i64 ab, .slice aj ad.length ak, .slice al af.length am, .slice ao ae.length ap] 26 (0, 0)) (fB aA.out aa.out) hb); have n6_ := Aside0.mk (blk_below (g := an) (o := .cells #[.int .i64 aP, .slice bn aV.length bm, .slice bu aY.length bo, .slice bO a8.length bv] 26 (0, 0)) (by (with_reducible repeat (first | refine qN ?_ _ | refine qD ?_ | refine qA ?_ _)); refine blk_put (cs := #[.int .i64 aP, .slice bn aV.length bm, .slice bu aY.length bo, .slice none 0 0]) ?_ 3 _ rfl; (with_reducible repeat (first | refine qN ?_ _ | refine qD ?_ | refine qA ?_ _)); refine blk_put (cs := #[.int .i64 aP, .slice bn aV.length bm, .slice none 0 0, .slice none 0 0]) ?_ 2 _ rfl; (with_reducible repeat (first | refine qN ?_ _ | refine qD ?_ | refine qA ?_ _)); refine blk_put (cs := #[.int .i64 aP, .slice none 0 0, .slice none 0 0, .slice none 0 0]) ?_ 1 _ rfl; (with_reducible repeat (first | refine qN ?_ _ | refine qD ?_ | refine qA ?_ _)); refine blk_put (cs := #[.int .i64 0, .slice none 0 0, .slice none 0 0, .slice none 0 0]) ?_ 0 _ rfl; (with_reducible repeat (first | refine qN ?_ _ | refine qD ?_ | refine qA ?_ _)); exact aC.out) hb); have n7_ := Aside0.mk (below_step (by repeat (first | (with_reducible first | exact HB.out | apply pA | apply pN | apply pD | refine pS ?_ au.out | refine pS ?_ ay.out | refine pS ?_ aI.out) | exact HB.out)) hb); clear av; clear aJ; clear aK; clear aL; clear ac; clear aa; clear aC; clear HB; have av := n0_; have aJ := n1_; have aK := n2_; have aL := n3_; have ac := n4_; have aa := n5_; have aC := n6_; have HB := n7_; clear n0_ n1_ n2_ n3_ n4_ n5_ n6_ n7_; (try clear hb); (try clear hb2); (try clear hk); (try clear hi)))
          go_ret
          exact ⟨by first | rfl | (simp [errW_none, errW_some] <;> rfl) | (simp [*, errW_none, errW_some] <;> rfl), by repeat (first | (with_reducible first | exact HB.out | apply pA | apply pN | apply pD | refine pS ?_ au.out | refine pS ?_ ay.out | refine pS ?_ aI.out) | exact HB.out)⟩
         ·rw [if_neg c65] at H
          have b3 : (bc == 0) = false := beq_eq_false_iff_ne.mpr c65
          have b4 : (bc != 0) = true := bne_iff_ne.mpr c65
          exact absurd ((Option.some.inj H).trans hlaw_.out) (by decide)
        ·replace c64 := Bool.eq_false_iff.mpr c64
         subst c64
         have H1 : (some (bc == (mn (wrap64 (aT + 1)) 255))) = some r := by rw [if_neg (show ¬ (false = true) by decide)] at H; exact H
         clear H
         have H := H1
         clear H1
         obtain ⟨ji95, hji95⟩ : ∃ j_ : Int, (mn (wrap64 (aT + 1)) 255) = j_ := ⟨_, rfl⟩
         replace H : (some (bc == (ji95))) = some r := by first | (rw [hji95] at H; exact H) | (simp only [hji95] at H ⊢; exact H)
         (try rw [hji95] at A2)
         (try rw [hji95] at A3)
         (try rw [hji95] at A5)
         (try rw [hji95] at A6)
         (try rw [hji95] at bl)
         (try rw [hji95] at bw)
         (try (have hji95h : ji95 ≤ 255 := by (rw [← hji95]; unfold mn; (repeat' split) <;> omega)))
         (try (have hji95g : ji95 ≤ 64 := by omega))
         have hji95_ : (if 255 < (wrap64 (aT + 1)) then 255 else (wrap64 (aT + 1))) = ji95 := hji95
         clear hlaw_
         obtain rfl := Option.some.inj H
         go_enter Try.func3, Try.ntmps3
         try go_wp2_with (first | ((with_reducible refine gate_dst (N := 1) rfl ?_); (try (refine gate_guard (by rfl) ?_; dsimp only)); refine box_event ?hg (N := 1) ?hd (cs := #[.int .i64 ab, .slice aj ad.length ak, .slice al af.length am, .slice ao ae.length ap, .string ar, .bool az, .bool ax, .int .i64 aw]) (t := 28) ?hr ?_; (case hd => rfl); (case hg => rfl); (case hr => first | (go_simp; done) | (go_simp; rfl)); intro ah hg w96 hbox hb; have n0_ := Aside0.mk (below_step (zH HB.out) hb); have n1_ := Aside0.mk (hbox); have n2_ := Aside0.mk ((by rw [hg]; exact (below_size (zH HB.out)) : w.heap.size ≤ ah)); have n3_ := Aside0.mk ((by rw [hg]; exact (below_size (zH HB.out)) : w.heap.size ≤ ah)); clear HB; have HB := n0_; have ac := n1_; have aD := n2_; have au := n3_; clear n0_ n1_ n2_ n3_; clear hb hbox hg; obtain ⟨kj, kk, kl, km, kn, ko, kp, kq, kr, ks, kt, ku, kv, kw, kx, ky⟩ := bk8 ac.out) | ((with_reducible refine gate_dst (N := 3) rfl ?_); (try (refine gate_guard (by rfl) ?_; dsimp only)); refine box_event ?hg (N := 3) ?hd (cs := #[.int .i64 0, .slice none 0 0, .slice none 0 0, .slice none 0 0]) (t := 26) ?hr ?_; (case hd => rfl); (case hg => rfl); (case hr => first | (go_simp; done) | (go_simp; rfl)); intro ag hg w98 hbox hb; have n0_ := Aside0.mk (blk_below (g := ah) (o := .cells #[.int .i64 ab, .slice aj ad.length ak, .slice al af.length am, .slice ao ae.length ap, .string ar, .bool az, .bool ax, .int .i64 aw] 28 (0, 0)) (zB ac.out) hb); have n1_ := Aside0.mk (below_step (by repeat (first | (with_reducible first | exact HB.out | apply pA | apply pN | apply pD | refine pS ?_ au.out) | exact HB.out)) hb); have n2_ := Aside0.mk (hbox); have n3_ := Aside0.mk ((by rw [hg]; exact (below_size (by repeat (first | (with_reducible first | exact HB.out | apply pA | apply pN | apply pD | refine pS ?_ au.out) | exact HB.out))) : w.heap.size ≤ ag)); have n4_ := Aside0.mk ((by rw [hg]; exact (below_size (by repeat (first | (with_reducible first | exact HB.out | apply pA | apply pN | apply pD | refine pS ?_ au.out) | exact HB.out))) : w.heap.size ≤ ag)); have n5_ := Aside0.mk ((by rw [hg]; exact Nat.ne_of_lt (blk_lt (g := ah) (o := .cells #[.int .i64 ab, .slice aj ad.length ak, .slice al af.length am, .slice ao ae.length ap, .string ar, .bool az, .bool ax, .int .i64 aw] 28 (0, 0)) (zB ac.out)) : ah ≠ ag)); have n6_ := Aside0.mk ((by rw [hg]; exact Nat.ne_of_gt (blk_lt (g := ah) (o := .cells #[.int .i64 ab, .slice aj ad.length ak, .slice al af.length am, .slice ao ae.length ap, .string ar, .bool az, .bool ax, .int .i64 aw] 28 (0, 0)) (zB ac.out)) : ag ≠ ah)); clear ac; clear HB; have ac := n0_; have HB := n1_; have aa := n2_; have aE := n3_; have ay := n4_; have aN := n5_; have aW := n6_; clear n0_ n1_ n2_ n3_ n4_ n5_ n6_; clear hb hbox hg; have k0 := aW.out; have k1 := aN.out; obtain ⟨ch, ci, cj, ck, cl, cm, cn, co⟩ := bk4 aa.out; obtain ⟨cp, cq, cr, ct, cu, cv, cw, cx, cy, cz, cA, cB, cC, cD, cE, cF⟩ := bk8 ac.out) | ((with_reducible refine gate_callee (f := 9) rfl ?_); refine goesL_ (some 27) rfl rfl Try.func9 (by kernel_rfl) rfl #[] rfl (by (try simp only [List.map_toArray, List.map_cons, List.map_nil]); first | done | rfl | (simp only [List.length_drop, List.length_take]; rfl)) ?_; (with_reducible refine (portreevelaw16_shown.calls k  true _ A2.out).mono ?_); rintro e w102 ⟨rfl, hb⟩; refine ⟨_, rfl, ?_⟩; have n0_ := Aside0.mk (blk_below (g := ah) (o := .cells #[.int .i64 ab, .slice aj ad.length ak, .slice al af.length am, .slice ao ae.length ap, .string ar, .bool az, .bool ax, .int .i64 aw] 28 (0, 0)) (fB aN.out ac.out) hb); have n1_ := Aside0.mk (blk_below (g := ag) (o := .cells #[.int .i64 ab, .slice aj ad.length ak, .slice al af.length am, .slice ao ae.length ap] 26 (0, 0)) (by (with_reducible repeat (first | refine qN ?_ _ | refine qD ?_ | refine qA ?_ _)); refine blk_put (cs := #[.int .i64 ab, .slice aj ad.length ak, .slice al af.length am, .slice none 0 0]) ?_ 3 _ rfl; (with_reducible repeat (first | refine qN ?_ _ | refine qD ?_ | refine qA ?_ _)); refine blk_put (cs := #[.int .i64 ab, .slice aj ad.length ak, .slice none 0 0, .slice none 0 0]) ?_ 2 _ rfl; (with_reducible repeat (first | refine qN ?_ _ | refine qD ?_ | refine qA ?_ _)); refine blk_put (cs := #[.int .i64 ab, .slice none 0 0, .slice none 0 0, .slice none 0 0]) ?_ 1 _ rfl; (with_reducible repeat (first | refine qN ?_ _ | refine qD ?_ | refine qA ?_ _)); refine blk_put (cs := #[.int .i64 0, .slice none 0 0, .slice none 0 0, .slice none 0 0]) ?_ 0 _ rfl; (with_reducible repeat (first | refine qN ?_ _ | refine qD ?_ | refine qA ?_ _)); exact aa.out) hb); have n2_ := Aside0.mk (below_step (by repeat (first | (with_reducible first | exact HB.out | apply pA | apply pN | apply pD | refine pS ?_ au.out | refine pS ?_ ay.out) | exact HB.out)) hb); clear ac; clear aa; clear HB; have ac := n0_; have aa := n1_; have HB := n2_; clear n0_ n1_ n2_; (try clear hb); (try clear hb2); (try clear hk); (try clear hi); obtain ⟨cG, cH, cI, cJ, cK, cL, cM, cN⟩ := bk4 aa.out) | ((with_reducible refine gate_callee (f := 10) rfl ?_); refine goesL_ (some 31) rfl rfl Try.func10 (by kernel_rfl) rfl #[.agg #[.int .i64 ab, .slice aj ad.length ak, .slice al af.length am, .slice ao ae.length ap], .string ar, .int .i64 aw] rfl (by (try simp only [List.map_toArray, List.map_cons, List.map_nil]); first | done | rfl | (simp only [List.length_drop, List.length_take]; rfl)) ?_; (with_reducible refine (portreevelaw16_may.calls k ab _ _ ad _ _ af _ _ ae ar aw true _ ?side1 ?side2 ?side3 ?side4 ?side5 ?side6 A3.out).mono ?_); (case side1 => repeat (first | exact (Kd.C_below aQ.out HB.out) | (with_reducible refine Kd.C_alloc ?_ _) | (with_reducible refine Kd.C_drewN ?_ _) | (with_reducible refine Kd.C_drew ?_))); (case side2 => exact HC0_1.out); (case side3 => repeat (first | exact (Kd.C_below aR.out HB.out) | (with_reducible refine Kd.C_alloc ?_ _) | (with_reducible refine Kd.C_drewN ?_ _) | (with_reducible refine Kd.C_drew ?_))); (case side4 => exact HC0_2.out); (case side5 => repeat (first | exact (Kd.C_below aS.out HB.out) | (with_reducible refine Kd.C_alloc ?_ _) | (with_reducible refine Kd.C_drewN ?_ _) | (with_reducible refine Kd.C_drew ?_))); (case side6 => exact HC0_3.out); rintro e w104 ⟨rfl, hb⟩; refine ⟨_, rfl, ?_⟩; have n0_ := Aside0.mk (blk_below (g := ah) (o := .cells #[.int .i64 ab, .slice aj ad.length ak, .slice al af.length am, .slice ao ae.length ap, .string ar, .bool az, .bool ax, .int .i64 aw] 28 (0, 0)) (zB ac.out) hb); have n1_ := Aside0.mk (blk_below (g := ag) (o := .cells #[.int .i64 ab, .slice aj ad.length ak, .slice al af.length am, .slice ao ae.length ap] 26 (0, 0)) (zB aa.out) hb); have n2_ := Aside0.mk (below_step (by repeat (first | (with_reducible first | exact HB.out | apply pA | apply pN | apply pD | refine pS ?_ au.out | refine pS ?_ ay.out) | exact HB.out)) hb); clear ac; clear aa; clear HB; have ac := n0_; have aa := n1_; have HB := n2_; clear n0_ n1_ n2_; (try clear hb); (try clear hb2); (try clear hk); (try clear hi); obtain ⟨cO, cP, cQ, cR, cS, cT, cU, cV⟩ := bk4 aa.out) | ((with_reducible refine gate_callee (f := 11) rfl ?_); refine goesL_ (some 40) rfl rfl Try.func11 (by kernel_rfl) rfl #[.agg #[.int .i64 ab, .slice aj ad.length ak, .slice al af.length am, .slice ao ae.length ap], .string ar, .bool az, .bool ax, .int .i64 aw] rfl (by (try simp only [List.map_toArray, List.map_cons, List.map_nil]); first | done | rfl | (simp only [List.length_drop, List.length_take]; rfl)) ?_; (with_reducible refine (gate_Verdict.calls k ab _ _ ad _ _ af _ _ ae ar az ax aw false ai _ ?side1 ?side2 ?side3 ?side4 ?side5 ?side6 A5.out).mono ?_); (case side1 => repeat (first | exact (Kd.C_below aQ.out HB.out) | (with_reducible refine Kd.C_alloc ?_ _) | (with_reducible refine Kd.C_drewN ?_ _) | (with_reducible refine Kd.C_drew ?_))); (case side2 => exact HC0_1.out); (case side3 => repeat (first | exact (Kd.C_below aR.out HB.out) | (with_reducible refine Kd.C_alloc ?_ _) | (with_reducible refine Kd.C_drewN ?_ _) | (with_reducible refine Kd.C_drew ?_))); (case side4 => exact HC0_2.out); (case side5 => repeat (first | exact (Kd.C_below aS.out HB.out) | (with_reducible refine Kd.C_alloc ?_ _) | (with_reducible refine Kd.C_drewN ?_ _) | (with_reducible refine Kd.C_drew ?_))); (case side6 => exact HC0_3.out); rintro e w106 ⟨v353, rfl, ho0, hb⟩; refine ⟨_, rfl, ?_⟩; have n0_ := Aside0.mk (Kd.V_lower (Kd.V_mono (ok' := fun k_ => k_ ≠ ah ∧ k_ ≠ ag) ho0 (fun k_ hk_ => ⟨(Kd.freshB (g := ah) (o := .cells #[.int .i64 ab, .slice aj ad.length ak, .slice al af.length am, .slice ao ae.length ap, .string ar, .bool az, .bool ax, .int .i64 aw] 28 (0, 0)) (zB ac.out) k_ hk_), (Kd.freshB (g := ag) (o := .cells #[.int .i64 ab, .slice aj ad.length ak, .slice al af.length am, .slice ao ae.length ap] 26 (0, 0)) (zB aa.out) k_ hk_)⟩)) (below_size (by repeat (first | (with_reducible first | exact HB.out | apply pA | apply pN | apply pD | refine pS ?_ au.out | refine pS ?_ ay.out) | exact HB.out)))); have n1_ := Aside0.mk (blk_below (g := ah) (o := .cells #[.int .i64 ab, .slice aj ad.length ak, .slice al af.length am, .slice ao ae.length ap, .string ar, .bool az, .bool ax, .int .i64 aw] 28 (0, 0)) (zB ac.out) hb); have n2_ := Aside0.mk (blk_below (g := ag) (o := .cells #[.int .i64 ab, .slice aj ad.length ak, .slice al af.length am, .slice ao ae.length ap] 26 (0, 0)) (zB aa.out) hb); have n3_ := Aside0.mk (below_step (by repeat (first | (with_reducible first | exact HB.out | apply pA | apply pN | apply pD | refine pS ?_ au.out | refine pS ?_ ay.out) | exact HB.out)) hb); clear ac; clear aa; clear HB; have av := n0_; have ac := n1_; have aa := n2_; have HB := n3_; clear n0_ n1_ n2_ n3_; (try clear hb); (try clear hb2); (try clear hk); (try clear hi); (try clear ho0); obtain ⟨cW, cX, cY, cZ, c0, c1, c2, c3⟩ := bk4 aa.out) | ((with_reducible refine gate_callee (f := 12) rfl ?_); refine goesL_ (some 46) rfl rfl Try.func12 (by kernel_rfl) rfl #[.agg #[.int .i64 ab, .slice aj ad.length ak, .slice al af.length am, .slice ao ae.length ap], .string ar] rfl (by (try simp only [List.map_toArray, List.map_cons, List.map_nil]); first | done | rfl | (simp only [List.length_drop, List.length_take]; rfl)) ?_; (with_reducible refine (gate_Failed.calls ab _ _ ad _ _ af _ _ ae ar aT bg _ ?side1 ?side2 ?side3 ?side4 ?side5 ?side6 A6.out).mono ?_); (case side1 => repeat (first | exact (Kd.C_below aQ.out HB.out) | (with_reducible refine Kd.C_alloc ?_ _) | (with_reducible refine Kd.C_drewN ?_ _) | (with_reducible refine Kd.C_drew ?_))); (case side2 => exact HC0_1.out); (case side3 => repeat (first | exact (Kd.C_below aR.out HB.out) | (with_reducible refine Kd.C_alloc ?_ _) | (with_reducible refine Kd.C_drewN ?_ _) | (with_reducible refine Kd.C_drew ?_))); (case side4 => exact HC0_2.out); (case side5 => repeat (first | exact (Kd.C_below aS.out HB.out) | (with_reducible refine Kd.C_alloc ?_ _) | (with_reducible refine Kd.C_drewN ?_ _) | (with_reducible refine Kd.C_drew ?_))); (case side6 => exact HC0_3.out); rintro e w108 ⟨rfl, hb⟩; refine ⟨_, rfl, ?_⟩; have n0_ := Aside0.mk (Kd.V_below (zV av.out) hb); have n1_ := Aside0.mk (blk_below (g := ah) (o := .cells #[.int .i64 ab, .slice aj ad.length ak, .slice al af.length am, .slice ao ae.length ap, .string ar, .bool az, .bool ax, .int .i64 aw] 28 (0, 0)) (zB ac.out) hb); have n2_ := Aside0.mk (blk_below (g := ag) (o := .cells #[.int .i64 ab, .slice aj ad.length ak, .slice al af.length am, .slice ao ae.length ap] 26 (0, 0)) (zB aa.out) hb); have n3_ := Aside0.mk (below_step (by repeat (first | (with_reducible first | exact HB.out | apply pA | apply pN | apply pD | refine pS ?_ au.out | refine pS ?_ ay.out) | exact HB.out)) hb); clear av; clear ac; clear aa; clear HB; have av := n0_; have ac := n1_; have aa := n2_; have HB := n3_; clear n0_ n1_ n2_ n3_; (try clear hb); (try clear hb2); (try clear hk); (try clear hi); obtain ⟨k2, bx, b5⟩ := Kd.V_slice av.out; subst b5))
         have n0_ := Aside0.mk (Kd.V_drew av.out)
         have n1_ := Aside0.mk (qD ac.out)
         have n2_ := Aside0.mk (qD aa.out)
         have n3_ := Aside0.mk (pD HB.out)
         clear av
         clear ac
         clear aa
         clear HB
         have av := n0_
         have ac := n1_
         have aa := n2_
         have HB := n3_
         clear n0_ n1_ n2_ n3_
         have p358 : 0 ≤ (0 : Int) := (by omega)
         have q358 : 0 < (ai.length : Int) := of_decide_eq_true (by first | (with_reducible assumption) | assumption)
         obtain ⟨aq, e358, hx358_0, hx358_1, hx358_2, hx358_3, hx358_4, hx358_5, hx358_6, hx358_7, hx358_8⟩ := at_T41 (Kd.V_reads' av.out).2.2 0 p358 q358
         cases e358
         have qi358 : (0 < ai.length) = True := eq_true (by omega)
         (try rw [show ((0 : Int)).toNat = 0 from rfl] at hx358_0)
         (try rw [show 0 * 9 = 0 from rfl] at hx358_0)
         (try rw [Addr.add_zero'] at hx358_0)
         (try rw [show ((0 : Int)).toNat = 0 from rfl] at hx358_1)
         (try rw [show 0 * 9 = 0 from rfl] at hx358_1)
         (try rw [Addr.add_zero'] at hx358_1)
         (try rw [show ((0 : Int)).toNat = 0 from rfl] at hx358_2)
         (try rw [show 0 * 9 = 0 from rfl] at hx358_2)
         (try rw [Addr.add_zero'] at hx358_2)
         (try rw [show ((0 : Int)).toNat = 0 from rfl] at hx358_3)
         (try rw [show 0 * 9 = 0 from rfl] at hx358_3)
         (try rw [Addr.add_zero'] at hx358_3)
         (try rw [show ((0 : Int)).toNat = 0 from rfl] at hx358_4)
         (try rw [show 0 * 9 = 0 from rfl] at hx358_4)
         (try rw [Addr.add_zero'] at hx358_4)
         (try rw [show ((0 : Int)).toNat = 0 from rfl] at hx358_5)
         (try rw [show 0 * 9 = 0 from rfl] at hx358_5)
         (try rw [Addr.add_zero'] at hx358_5)
         (try rw [show ((0 : Int)).toNat = 0 from rfl] at hx358_6)
         (try rw [show 0 * 9 = 0 from rfl] at hx358_6)
         (try rw [Addr.add_zero'] at hx358_6)
         (try rw [show ((0 : Int)).toNat = 0 from rfl] at hx358_7)
         (try rw [show 0 * 9 = 0 from rfl] at hx358_7)
         (try rw [Addr.add_zero'] at hx358_7)
         (try rw [show ((0 : Int)).toNat = 0 from rfl] at hx358_8)
         (try rw [show 0 * 9 = 0 from rfl] at hx358_8)
         (try rw [Addr.add_zero'] at hx358_8)
         replace p358 := eq_true p358
         replace q358 := eq_true q358
         refine start_ (n := 11) (S := fun w' => w'.cell? ⟨ag, 0, none⟩ = some (.int .i64 ab) ∧ w'.cell? ⟨ag, 1, none⟩ = some (.slice aj ad.length ak) ∧ w'.cell? ⟨ag, 2, none⟩ = some (.slice al af.length am) ∧ w'.cell? ⟨ag, 3, none⟩ = some (.slice ao ae.length ap) ∧ w'.cell? aq = some (.int .i64 ((rd_T41 ai 0).f0)) ∧ w'.cell? ⟨aq.block, aq.off + 1, none⟩ = some (.int .i64 ((rd_T41 ai 0).f1)) ∧ w'.cell? ⟨aq.block, aq.off + 2, none⟩ = some (.int .i64 ((rd_T41 ai 0).f2)) ∧ w'.cell? ⟨aq.block, aq.off + 3, none⟩ = some (.int .u32 ((rd_T41 ai 0).f3)) ∧ w'.cell? ⟨aq.block, aq.off + 4, none⟩ = some (.string ((rd_T41 ai 0).f4)) ∧ w'.cell? ⟨aq.block, aq.off + 5, none⟩ = some (.int .u64 ((rd_T41 ai 0).f5)) ∧ w'.cell? ⟨aq.block, aq.off + 6, none⟩ = some (.int .u64 ((rd_T41 ai 0).f6)) ∧ w'.cell? ⟨aq.block, aq.off + 7, none⟩ = some (.int .i64 ((rd_T41 ai 0).f7)) ∧ w'.cell? ⟨aq.block, aq.off + 8, none⟩ = some (.int .i64 ((rd_T41 ai 0).f8))) (ds := []) #[oO, oO, oO, oO, oO, oO, oO, oO, oO, oO, oO] (by kernel_rfl) rfl rfl ⟨(blk_cell aa.out 0).trans rfl, (blk_cell aa.out 1).trans rfl, (blk_cell aa.out 2).trans rfl, (blk_cell aa.out 3).trans rfl, hx358_0, hx358_1, hx358_2, hx358_3, hx358_4, hx358_5, hx358_6, hx358_7, hx358_8⟩ (fun hHeld => ?_); refine with_tabW portreevelaw16_GateOps.tab13 portreevelaw16_GateOps.bits13 (fun HT_ HW_ => ?_)
         generalize w108.drew = w110 at av ac aa HB hx358_0 hx358_1 hx358_2 hx358_3 hx358_4 hx358_5 hx358_6 hx358_7 hx358_8 hHeld ⊢
         refine pure_ (i := 1) (N := some 76) (v := ?_) (a' := ?_) #[oO, oI, oO, oO, oO, oO, oO, oO, oO, oO, oO] rfl rfl (any_of HT_.out (by kernel_rfl)) (fun _ _ _ h => h) (Or.inl ⟨by rfl, ?_⟩) ?_ ?_
         rotate_left
         ·intro w'
          go_simp
          with_reducible rfl
         rotate_left
         ·simp only [Act.put, sT, s0, s1, i64_w, i32_w]
          rfl
         refine pure_ (i := 2) (N := some 77) (v := ?_) (a' := ?_) #[oO, oI, oI, oO, oO, oO, oO, oO, oO, oO, oO] rfl rfl (any_of HT_.out (by kernel_rfl)) (fun _ _ _ h => h) (Or.inl ⟨by rfl, ?_⟩) ?_ ?_
         rotate_left
         ·intro w'
          go_simp
          with_reducible rfl
         rotate_left
         ·simp only [Act.put, sT, s0, s1, i64_w, i32_w]
          rfl
         refine take_ (i := 0) (N := some 75) (v := ?_) (a' := ?_) #[oI, oI, oI, oO, oO, oO, oO, oO, oO, oO, oO] rfl rfl (take_ofW HT_.out HW_.out (by kernel_rfl)) (fun _ _ _ h => h) (Or.inl ⟨by rfl, ?_⟩) hHeld ?_ ?_
         rotate_left
         ·rintro w' ⟨s0, s1, s2, s3, s4, s5, s6, s7, s8, s9, s10, s11, s12⟩
          go_simp
          with_reducible rfl
         rotate_left
         ·simp only [Act.put, sT, s0, s1, i64_w, i32_w]
          rfl
         refine take_ (i := 3) (N := some 78) (v := ?_) (a' := ?_) #[oI, oI, oI, oI, oO, oO, oO, oO, oO, oO, oO] rfl rfl (take_ofW HT_.out HW_.out (by kernel_rfl)) (fun _ _ _ h => h) (Or.inl ⟨by rfl, ?_⟩) hHeld ?_ ?_
         rotate_left
         ·rintro w' ⟨s0, s1, s2, s3, s4, s5, s6, s7, s8, s9, s10, s11, s12⟩
          go_simp
          with_reducible rfl
         rotate_left
         ·simp only [Act.put, sT, s0, s1, i64_w, i32_w]
          rfl
         refine join_ (σ := Value × Value × Value × Nat) 2 #[oI, oI, oI, oI, oI, oI, oI, oI, oI, oO, oO] (fun s_ => [(79, .tuple #[.agg #[.int .i64 aP, s_.1, s_.2.1, s_.2.2.1], .int .i64 ba]), (13, .pointer (some ⟨s_.2.2.2, 0, none⟩)), (74, .tuple #[.agg #[.int .i64 aP, s_.1, s_.2.1, s_.2.2.1], .int .i64 ba]), (80, .agg #[.int .i64 aP, s_.1, s_.2.1, s_.2.2.1]), (81, .int .i64 ba)]) (fun s_ w' => (w'.cell? ⟨ag, 0, none⟩ = some (.int .i64 ab) ∧ w'.cell? ⟨ag, 1, none⟩ = some (.slice aj ad.length ak) ∧ w'.cell? ⟨ag, 2, none⟩ = some (.slice al af.length am) ∧ w'.cell? ⟨ag, 3, none⟩ = some (.slice ao ae.length ap) ∧ w'.cell? aq = some (.int .i64 ((rd_T41 ai 0).f0)) ∧ w'.cell? ⟨aq.block, aq.off + 1, none⟩ = some (.int .i64 ((rd_T41 ai 0).f1)) ∧ w'.cell? ⟨aq.block, aq.off + 2, none⟩ = some (.int .i64 ((rd_T41 ai 0).f2)) ∧ w'.cell? ⟨aq.block, aq.off + 3, none⟩ = some (.int .u32 ((rd_T41 ai 0).f3)) ∧ w'.cell? ⟨aq.block, aq.off + 4, none⟩ = some (.string ((rd_T41 ai 0).f4)) ∧ w'.cell? ⟨aq.block, aq.off + 5, none⟩ = some (.int .u64 ((rd_T41 ai 0).f5)) ∧ w'.cell? ⟨aq.block, aq.off + 6, none⟩ = some (.int .u64 ((rd_T41 ai 0).f6)) ∧ w'.cell? ⟨aq.block, aq.off + 7, none⟩ = some (.int .i64 ((rd_T41 ai 0).f7)) ∧ w'.cell? ⟨aq.block, aq.off + 8, none⟩ = some (.int .i64 ((rd_T41 ai 0).f8))) ∧ (Kd.V k41 41 w' w.heap.size (fun k_ => k_ ≠ ah ∧ k_ ≠ ag ∧ k_ ≠ s_.2.2.2) (.slice (some aq) ai.length bx) ai) ∧ (Kd.V k76 76 w' w.heap.size (fun k_ => k_ ≠ ah ∧ k_ ≠ ag ∧ k_ ≠ s_.2.2.2) s_.1 aV) ∧ (Kd.V k72 72 w' w.heap.size (fun k_ => k_ ≠ ah ∧ k_ ≠ ag ∧ k_ ≠ s_.2.2.2) s_.2.1 aY) ∧ (Kd.V k64 64 w' w.heap.size (fun k_ => k_ ≠ ah ∧ k_ ≠ ag ∧ k_ ≠ s_.2.2.2) s_.2.2.1 a8) ∧ (w'.heap[ah]? = some (.cells #[.int .i64 ab, .slice aj ad.length ak, .slice al af.length am, .slice ao ae.length ap, .string ar, .bool az, .bool ax, .int .i64 aw] 28 (0, 0))) ∧ (w'.heap[ag]? = some (.cells #[.int .i64 ab, .slice aj ad.length ak, .slice al af.length am, .slice ao ae.length ap] 26 (0, 0))) ∧ (w'.heap[s_.2.2.2]? = some (.cells #[.int .i64 0, .slice none 0 0, .slice none 0 0, .slice none 0 0] 26 (0, 0))) ∧ (w.heap.size ≤ s_.2.2.2) ∧ (w.heap.size ≤ s_.2.2.2) ∧ (ah ≠ s_.2.2.2) ∧ (s_.2.2.2 ≠ ah) ∧ (ag ≠ s_.2.2.2) ∧ (s_.2.2.2 ≠ ag) ∧ (Below w.heap.size w w')) ?_ ?_
         rotate_left
         ·intro hCont
          refine two_ (i := 4) (j := 8) (Ni := some 79) (Nj := some 13) #[oI, oI, oI, oI, oI, oO, oO, oO, oO, oO, oO] #[oI, oI, oI, oI, oO, oO, oO, oO, oI, oO, oO] rfl rfl rfl rfl (two_of HT_.out (by kernel_rfl)) (by decide) (by decide) (fun K hK => ?_) (fun K hK => ?_)
          ·skip
           refine goes_ Try.func14 (by kernel_rfl) rfl #[.agg #[.int .i64 ab, .slice aj ad.length ak, .slice al af.length am, .slice ao ae.length ap], .agg #[.int .i64 ((rd_T41 ai 0).f0), .int .i64 ((rd_T41 ai 0).f1), .int .i64 ((rd_T41 ai 0).f2), .int .u32 ((rd_T41 ai 0).f3), .string ((rd_T41 ai 0).f4), .int .u64 ((rd_T41 ai 0).f5), .int .u64 ((rd_T41 ai 0).f6), .int .i64 ((rd_T41 ai 0).f7), .int .i64 ((rd_T41 ai 0).f8)]] (by rfl) rfl rfl (by (try simp only [List.map_toArray, List.map_cons, List.map_nil]); first | done | rfl | (simp only [List.length_drop, List.length_take]; rfl)) ?_
           with_reducible refine (portreeveref04_Apply.calls k ab (fun k_ => k_ < w.heap.size) _ _ ad (fun k_ => k_ < w.heap.size) _ _ af (fun k_ => k_ < w.heap.size) _ _ ae ((rd_T41 ai 0).f0) ((rd_T41 ai 0).f1) ((rd_T41 ai 0).f2) ((rd_T41 ai 0).f3) ((rd_T41 ai 0).f4) ((rd_T41 ai 0).f5) ((rd_T41 ai 0).f6) ((rd_T41 ai 0).f7) ((rd_T41 ai 0).f8) aP aV aY a8 ba _ ?side1 ?side2 ?side3 bl.out).mono ?_
           (case side1 => exact Kd.V_mk HC0_1.out (Kd.F_below (Kd.C_F k76_heap aQ.out) (by repeat (first | (with_reducible first | exact HB.out | apply pA | apply pN | apply pD | refine pS ?_ au.out | refine pS ?_ ay.out) | exact HB.out))))
           (case side2 => exact Kd.V_mk HC0_2.out (Kd.F_below (Kd.C_F k72_heap aR.out) (by repeat (first | (with_reducible first | exact HB.out | apply pA | apply pN | apply pD | refine pS ?_ au.out | refine pS ?_ ay.out) | exact HB.out))))
           (case side3 => exact Kd.V_mk HC0_3.out (Kd.F_below (Kd.C_F k64_heap aS.out) (by repeat (first | (with_reducible first | exact HB.out | apply pA | apply pN | apply pD | refine pS ?_ au.out | refine pS ?_ ay.out) | exact HB.out))))
           rintro e w111 ⟨v361, v364, v367, rfl, ho0, ho1, ho2, hb⟩
           have HS4_ := (hb.cell (World.block_lt_of_cell? _ _ (hHeld.2.2.2.2.1))).trans (hHeld.2.2.2.2.1)
           have HS5_ := (hb.cell (World.block_lt_of_cell? _ _ (hHeld.2.2.2.2.2.1))).trans (hHeld.2.2.2.2.2.1)
           have HS6_ := (hb.cell (World.block_lt_of_cell? _ _ (hHeld.2.2.2.2.2.2.1))).trans (hHeld.2.2.2.2.2.2.1)
           have HS7_ := (hb.cell (World.block_lt_of_cell? _ _ (hHeld.2.2.2.2.2.2.2.1))).trans (hHeld.2.2.2.2.2.2.2.1)
           have HS8_ := (hb.cell (World.block_lt_of_cell? _ _ (hHeld.2.2.2.2.2.2.2.2.1))).trans (hHeld.2.2.2.2.2.2.2.2.1)
           have HS9_ := (hb.cell (World.block_lt_of_cell? _ _ (hHeld.2.2.2.2.2.2.2.2.2.1))).trans (hHeld.2.2.2.2.2.2.2.2.2.1)
           have HS10_ := (hb.cell (World.block_lt_of_cell? _ _ (hHeld.2.2.2.2.2.2.2.2.2.2.1))).trans (hHeld.2.2.2.2.2.2.2.2.2.2.1)
           have HS11_ := (hb.cell (World.block_lt_of_cell? _ _ (hHeld.2.2.2.2.2.2.2.2.2.2.2.1))).trans (hHeld.2.2.2.2.2.2.2.2.2.2.2.1)
           have HS12_ := (hb.cell (World.block_lt_of_cell? _ _ (hHeld.2.2.2.2.2.2.2.2.2.2.2.2))).trans (hHeld.2.2.2.2.2.2.2.2.2.2.2.2)
           refine ⟨_, rfl, ?_⟩
           have n0_ := Aside0.mk (Kd.V_below (zV av.out) hb)
           have n1_ := Aside0.mk (Kd.V_lower (Kd.V_mono (ok' := fun k_ => k_ ≠ ah ∧ k_ ≠ ag) ho0 (fun k_ hk_ => ⟨Or.elim hk_ (fun hs_ => Or.elim hs_ (fun hs_ => fun e_ => Nat.not_le.2 hs_ (by rw [e_]; exact aD.out)) (fun hs_ => Or.elim hs_ (fun hs_ => fun e_ => Nat.not_le.2 hs_ (by rw [e_]; exact aD.out)) (fun hs_ => fun e_ => Nat.not_le.2 hs_ (by rw [e_]; exact aD.out)))) (fun hn_ => (Kd.freshB (g := ah) (o := .cells #[.int .i64 ab, .slice aj ad.length ak, .slice al af.length am, .slice ao ae.length ap, .string ar, .bool az, .bool ax, .int .i64 aw] 28 (0, 0)) (zB ac.out) k_ hn_)), Or.elim hk_ (fun hs_ => Or.elim hs_ (fun hs_ => fun e_ => Nat.not_le.2 hs_ (by rw [e_]; exact aE.out)) (fun hs_ => Or.elim hs_ (fun hs_ => fun e_ => Nat.not_le.2 hs_ (by rw [e_]; exact aE.out)) (fun hs_ => fun e_ => Nat.not_le.2 hs_ (by rw [e_]; exact aE.out)))) (fun hn_ => (Kd.freshB (g := ag) (o := .cells #[.int .i64 ab, .slice aj ad.length ak, .slice al af.length am, .slice ao ae.length ap] 26 (0, 0)) (zB aa.out) k_ hn_))⟩)) (below_size (by repeat (first | (with_reducible first | exact HB.out | apply pA | apply pN | apply pD | refine pS ?_ au.out | refine pS ?_ ay.out) | exact HB.out))))
           have n2_ := Aside0.mk (Kd.V_lower (Kd.V_mono (ok' := fun k_ => k_ ≠ ah ∧ k_ ≠ ag) ho1 (fun k_ hk_ => ⟨Or.elim hk_ (fun hs_ => Or.elim hs_ (fun hs_ => fun e_ => Nat.not_le.2 hs_ (by rw [e_]; exact aD.out)) (fun hs_ => Or.elim hs_ (fun hs_ => fun e_ => Nat.not_le.2 hs_ (by rw [e_]; exact aD.out)) (fun hs_ => fun e_ => Nat.not_le.2 hs_ (by rw [e_]; exact aD.out)))) (fun hn_ => (Kd.freshB (g := ah) (o := .cells #[.int .i64 ab, .slice aj ad.length ak, .slice al af.length am, .slice ao ae.length ap, .string ar, .bool az, .bool ax, .int .i64 aw] 28 (0, 0)) (zB ac.out) k_ hn_)), Or.elim hk_ (fun hs_ => Or.elim hs_ (fun hs_ => fun e_ => Nat.not_le.2 hs_ (by rw [e_]; exact aE.out)) (fun hs_ => Or.elim hs_ (fun hs_ => fun e_ => Nat.not_le.2 hs_ (by rw [e_]; exact aE.out)) (fun hs_ => fun e_ => Nat.not_le.2 hs_ (by rw [e_]; exact aE.out)))) (fun hn_ => (Kd.freshB (g := ag) (o := .cells #[.int .i64 ab, .slice aj ad.length ak, .slice al af.length am, .slice ao ae.length ap] 26 (0, 0)) (zB aa.out) k_ hn_))⟩)) (below_size (by repeat (first | (with_reducible first | exact HB.out | apply pA | apply pN | apply pD | refine pS ?_ au.out | refine pS ?_ ay.out) | exact HB.out))))
           have n3_ := Aside0.mk (Kd.V_lower (Kd.V_mono (ok' := fun k_ => k_ ≠ ah ∧ k_ ≠ ag) ho2 (fun k_ hk_ => ⟨Or.elim hk_ (fun hs_ => Or.elim hs_ (fun hs_ => fun e_ => Nat.not_le.2 hs_ (by rw [e_]; exact aD.out)) (fun hs_ => Or.elim hs_ (fun hs_ => fun e_ => Nat.not_le.2 hs_ (by rw [e_]; exact aD.out)) (fun hs_ => fun e_ => Nat.not_le.2 hs_ (by rw [e_]; exact aD.out)))) (fun hn_ => (Kd.freshB (g := ah) (o := .cells #[.int .i64 ab, .slice aj ad.length ak, .slice al af.length am, .slice ao ae.length ap, .string ar, .bool az, .bool ax, .int .i64 aw] 28 (0, 0)) (zB ac.out) k_ hn_)), Or.elim hk_ (fun hs_ => Or.elim hs_ (fun hs_ => fun e_ => Nat.not_le.2 hs_ (by rw [e_]; exact aE.out)) (fun hs_ => Or.elim hs_ (fun hs_ => fun e_ => Nat.not_le.2 hs_ (by rw [e_]; exact aE.out)) (fun hs_ => fun e_ => Nat.not_le.2 hs_ (by rw [e_]; exact aE.out)))) (fun hn_ => (Kd.freshB (g := ag) (o := .cells #[.int .i64 ab, .slice aj ad.length ak, .slice al af.length am, .slice ao ae.length ap] 26 (0, 0)) (zB aa.out) k_ hn_))⟩)) (below_size (by repeat (first | (with_reducible first | exact HB.out | apply pA | apply pN | apply pD | refine pS ?_ au.out | refine pS ?_ ay.out) | exact HB.out))))
           have n4_ := Aside0.mk (blk_below (g := ah) (o := .cells #[.int .i64 ab, .slice aj ad.length ak, .slice al af.length am, .slice ao ae.length ap, .string ar, .bool az, .bool ax, .int .i64 aw] 28 (0, 0)) (zB ac.out) hb)
           have n5_ := Aside0.mk (blk_below (g := ag) (o := .cells #[.int .i64 ab, .slice aj ad.length ak, .slice al af.length am, .slice ao ae.length ap] 26 (0, 0)) (zB aa.out) hb)
           have n6_ := Aside0.mk (below_step (by repeat (first | (with_reducible first | exact HB.out | apply pA | apply pN | apply pD | refine pS ?_ au.out | refine pS ?_ ay.out) | exact HB.out)) hb)
           clear av
           clear ac
           clear aa
           clear HB
           have av := n0_
           have aJ := n1_
           have aK := n2_
           have aL := n3_
           have ac := n4_
           have aa := n5_
           have HB := n6_
           clear n0_ n1_ n2_ n3_ n4_ n5_ n6_
           (try clear hb)
           (try clear hb2)
           (try clear hk)
           (try clear hi)
           (try clear ho0)
           (try clear ho1)
           (try clear ho2)
           refine hK.out _ _ ⟨(blk_cell aa.out 0).trans rfl, (blk_cell aa.out 1).trans rfl, (blk_cell aa.out 2).trans rfl, (blk_cell aa.out 3).trans rfl, HS4_, HS5_, HS6_, HS7_, HS8_, HS9_, HS10_, HS11_, HS12_⟩ (fun hHeld => ?_)
           clear hK K
           refine norm_ (a' := ?_) ?_ ?_
           rotate_left
           ·show Act.put _ (some 79) _ = _
            simp only [Act.put, sT, s0, s1, i64_w, i32_w]
            rfl
           refine pure_ (i := 5) (N := some 74) (v := ?_) (a' := ?_) #[oI, oI, oI, oI, oI, oI, oO, oO, oO, oO, oO] rfl rfl (any_of HT_.out (by kernel_rfl)) (fun _ _ _ h => h) (Or.inl ⟨by rfl, ?_⟩) ?_ ?_
           rotate_left
           ·intro w'
            go_simp
            with_reducible rfl
           rotate_left
           ·simp only [Act.put, sT, s0, s1, i64_w, i32_w]
            rfl
           refine pure_ (i := 6) (N := some 80) (v := ?_) (a' := ?_) #[oI, oI, oI, oI, oI, oI, oI, oO, oO, oO, oO] rfl rfl (any_of HT_.out (by kernel_rfl)) (fun _ _ _ h => h) (Or.inl ⟨by rfl, ?_⟩) ?_ ?_
           rotate_left
           ·intro w'
            go_simp
            with_reducible rfl
           rotate_left
           ·simp only [Act.put, sT, s0, s1, i64_w, i32_w]
            rfl
           refine pure_ (i := 7) (N := some 81) (v := ?_) (a' := ?_) #[oI, oI, oI, oI, oI, oI, oI, oI, oO, oO, oO] rfl rfl (any_of HT_.out (by kernel_rfl)) (fun _ _ _ h => h) (Or.inl ⟨by rfl, ?_⟩) ?_ ?_
           rotate_left
           ·intro w'
            go_simp
            with_reducible rfl
           rotate_left
           ·simp only [Act.put, sT, s0, s1, i64_w, i32_w]
            rfl
           refine one_ (i := 8) (N := some 13) #[oI, oI, oI, oI, oI, oI, oI, oI, oI, oO, oO] rfl rfl (one_of HT_.out (by kernel_rfl)) (by decide) (fun K hK => ?_)
           refine box_step ?hg (N := 13) ?hd (cs := #[.int .i64 0, .slice none 0 0, .slice none 0 0, .slice none 0 0]) (t := 26) ?hr ?_; (case hd => rfl); (case hg => rfl); (case hr => first | (go_simp; done) | (go_simp; rfl))
           intro an hg w112 hbox hb
           have HS4_ := (hb.cell (World.block_lt_of_cell? _ _ (hHeld.2.2.2.2.1))).trans (hHeld.2.2.2.2.1)
           have HS5_ := (hb.cell (World.block_lt_of_cell? _ _ (hHeld.2.2.2.2.2.1))).trans (hHeld.2.2.2.2.2.1)
           have HS6_ := (hb.cell (World.block_lt_of_cell? _ _ (hHeld.2.2.2.2.2.2.1))).trans (hHeld.2.2.2.2.2.2.1)
           have HS7_ := (hb.cell (World.block_lt_of_cell? _ _ (hHeld.2.2.2.2.2.2.2.1))).trans (hHeld.2.2.2.2.2.2.2.1)
           have HS8_ := (hb.cell (World.block_lt_of_cell? _ _ (hHeld.2.2.2.2.2.2.2.2.1))).trans (hHeld.2.2.2.2.2.2.2.2.1)
           have HS9_ := (hb.cell (World.block_lt_of_cell? _ _ (hHeld.2.2.2.2.2.2.2.2.2.1))).trans (hHeld.2.2.2.2.2.2.2.2.2.1)
           have HS10_ := (hb.cell (World.block_lt_of_cell? _ _ (hHeld.2.2.2.2.2.2.2.2.2.2.1))).trans (hHeld.2.2.2.2.2.2.2.2.2.2.1)
           have HS11_ := (hb.cell (World.block_lt_of_cell? _ _ (hHeld.2.2.2.2.2.2.2.2.2.2.2.1))).trans (hHeld.2.2.2.2.2.2.2.2.2.2.2.1)
           have HS12_ := (hb.cell (World.block_lt_of_cell? _ _ (hHeld.2.2.2.2.2.2.2.2.2.2.2.2))).trans (hHeld.2.2.2.2.2.2.2.2.2.2.2.2)
           have n0_ := Aside0.mk (Kd.V_below (Kd.V_elderB (zV av.out) an (Nat.le_of_eq hg.symm)) hb)
           have n1_ := Aside0.mk (Kd.V_below (Kd.V_elderB (zV aJ.out) an (Nat.le_of_eq hg.symm)) hb)
           have n2_ := Aside0.mk (Kd.V_below (Kd.V_elderB (zV aK.out) an (Nat.le_of_eq hg.symm)) hb)
           have n3_ := Aside0.mk (Kd.V_below (Kd.V_elderB (zV aL.out) an (Nat.le_of_eq hg.symm)) hb)
           have n4_ := Aside0.mk (blk_below (g := ah) (o := .cells #[.int .i64 ab, .slice aj ad.length ak, .slice al af.length am, .slice ao ae.length ap, .string ar, .bool az, .bool ax, .int .i64 aw] 28 (0, 0)) (zB ac.out) hb)
           have n5_ := Aside0.mk (blk_below (g := ag) (o := .cells #[.int .i64 ab, .slice aj ad.length ak, .slice al af.length am, .slice ao ae.length ap] 26 (0, 0)) (zB aa.out) hb)
           have n6_ := Aside0.mk (below_step (by repeat (first | (with_reducible first | exact HB.out | apply pA | apply pN | apply pD | refine pS ?_ au.out | refine pS ?_ ay.out) | exact HB.out)) hb)
           have n7_ := Aside0.mk (hbox)
           have n8_ := Aside0.mk ((by rw [hg]; exact (below_size (by repeat (first | (with_reducible first | exact HB.out | apply pA | apply pN | apply pD | refine pS ?_ au.out | refine pS ?_ ay.out) | exact HB.out))) : w.heap.size ≤ an))
           have n9_ := Aside0.mk ((by rw [hg]; exact (below_size (by repeat (first | (with_reducible first | exact HB.out | apply pA | apply pN | apply pD | refine pS ?_ au.out | refine pS ?_ ay.out) | exact HB.out))) : w.heap.size ≤ an))
           have n10_ := Aside0.mk ((by rw [hg]; exact Nat.ne_of_lt (blk_lt (g := ah) (o := .cells #[.int .i64 ab, .slice aj ad.length ak, .slice al af.length am, .slice ao ae.length ap, .string ar, .bool az, .bool ax, .int .i64 aw] 28 (0, 0)) (zB ac.out)) : ah ≠ an))
           have n11_ := Aside0.mk ((by rw [hg]; exact Nat.ne_of_gt (blk_lt (g := ah) (o := .cells #[.int .i64 ab, .slice aj ad.length ak, .slice al af.length am, .slice ao ae.length ap, .string ar, .bool az, .bool ax, .int .i64 aw] 28 (0, 0)) (zB ac.out)) : an ≠ ah))
           have n12_ := Aside0.mk ((by rw [hg]; exact Nat.ne_of_lt (blk_lt (g := ag) (o := .cells #[.int .i64 ab, .slice aj ad.length ak, .slice al af.length am, .slice ao ae.length ap] 26 (0, 0)) (zB aa.out)) : ag ≠ an))
           have n13_ := Aside0.mk ((by rw [hg]; exact Nat.ne_of_gt (blk_lt (g := ag) (o := .cells #[.int .i64 ab, .slice aj ad.length ak, .slice al af.length am, .slice ao ae.length ap] 26 (0, 0)) (zB aa.out)) : an ≠ ag))
           clear av
           clear aJ
           clear aK
           clear aL
           clear ac
           clear aa
           clear HB
           have av := n0_
           have aJ := n1_
           have aK := n2_
           have aL := n3_
           have ac := n4_
           have aa := n5_
           have HB := n6_
           have aC := n7_
           have aM := n8_
           have aI := n9_
           have aF := n10_
           have aG := n11_
           have aA := n12_
           have aH := n13_
           clear n0_ n1_ n2_ n3_ n4_ n5_ n6_ n7_ n8_ n9_ n10_ n11_ n12_ n13_
           clear hb hbox hg
           refine hK.out _ _ ⟨(blk_cell aa.out 0).trans rfl, (blk_cell aa.out 1).trans rfl, (blk_cell aa.out 2).trans rfl, (blk_cell aa.out 3).trans rfl, HS4_, HS5_, HS6_, HS7_, HS8_, HS9_, HS10_, HS11_, HS12_⟩ (fun hHeld => ?_)
           clear hK K
           refine norm_ (a' := ?_) ?_ ?_
           rotate_left
           ·show Act.put _ (some 13) _ = _
            simp only [Act.put, sT, s0, s1, i64_w, i32_w]
            rfl
           exact norm_ (by simp only [putAll, Act.put, sT, s0, s1]) (hCont (v361, v364, v367, an) _ ⟨hHeld, (zV (Kd.V_mono av.out (fun _ hk => ⟨hk.1.1, ⟨hk.1.2, hk.2⟩⟩))), (zV (Kd.V_mono aJ.out (fun _ hk => ⟨hk.1.1, ⟨hk.1.2, hk.2⟩⟩))), (zV (Kd.V_mono aK.out (fun _ hk => ⟨hk.1.1, ⟨hk.1.2, hk.2⟩⟩))), (zV (Kd.V_mono aL.out (fun _ hk => ⟨hk.1.1, ⟨hk.1.2, hk.2⟩⟩))), (zB ac.out), (zB aa.out), (zB aC.out), aM.out, aI.out, aF.out, aG.out, aA.out, aH.out, (by repeat (first | (with_reducible first | exact HB.out | apply pA | apply pN | apply pD | refine pS ?_ au.out | refine pS ?_ ay.out | refine pS ?_ aI.out) | exact HB.out))⟩)
          ·skip
           refine box_step ?hg (N := 13) ?hd (cs := #[.int .i64 0, .slice none 0 0, .slice none 0 0, .slice none 0 0]) (t := 26) ?hr ?_; (case hd => rfl); (case hg => rfl); (case hr => first | (go_simp; done) | (go_simp; rfl))
           intro an hg w111 hbox hb
           have HS4_ := (hb.cell (World.block_lt_of_cell? _ _ (hHeld.2.2.2.2.1))).trans (hHeld.2.2.2.2.1)
           have HS5_ := (hb.cell (World.block_lt_of_cell? _ _ (hHeld.2.2.2.2.2.1))).trans (hHeld.2.2.2.2.2.1)
           have HS6_ := (hb.cell (World.block_lt_of_cell? _ _ (hHeld.2.2.2.2.2.2.1))).trans (hHeld.2.2.2.2.2.2.1)
           have HS7_ := (hb.cell (World.block_lt_of_cell? _ _ (hHeld.2.2.2.2.2.2.2.1))).trans (hHeld.2.2.2.2.2.2.2.1)
           have HS8_ := (hb.cell (World.block_lt_of_cell? _ _ (hHeld.2.2.2.2.2.2.2.2.1))).trans (hHeld.2.2.2.2.2.2.2.2.1)
           have HS9_ := (hb.cell (World.block_lt_of_cell? _ _ (hHeld.2.2.2.2.2.2.2.2.2.1))).trans (hHeld.2.2.2.2.2.2.2.2.2.1)
           have HS10_ := (hb.cell (World.block_lt_of_cell? _ _ (hHeld.2.2.2.2.2.2.2.2.2.2.1))).trans (hHeld.2.2.2.2.2.2.2.2.2.2.1)
           have HS11_ := (hb.cell (World.block_lt_of_cell? _ _ (hHeld.2.2.2.2.2.2.2.2.2.2.2.1))).trans (hHeld.2.2.2.2.2.2.2.2.2.2.2.1)
           have HS12_ := (hb.cell (World.block_lt_of_cell? _ _ (hHeld.2.2.2.2.2.2.2.2.2.2.2.2))).trans (hHeld.2.2.2.2.2.2.2.2.2.2.2.2)
           have n0_ := Aside0.mk (Kd.V_below (Kd.V_elderB (zV av.out) an (Nat.le_of_eq hg.symm)) hb)
           have n1_ := Aside0.mk (blk_below (g := ah) (o := .cells #[.int .i64 ab, .slice aj ad.length ak, .slice al af.length am, .slice ao ae.length ap, .string ar, .bool az, .bool ax, .int .i64 aw] 28 (0, 0)) (zB ac.out) hb)
           have n2_ := Aside0.mk (blk_below (g := ag) (o := .cells #[.int .i64 ab, .slice aj ad.length ak, .slice al af.length am, .slice ao ae.length ap] 26 (0, 0)) (zB aa.out) hb)
           have n3_ := Aside0.mk (below_step (by repeat (first | (with_reducible first | exact HB.out | apply pA | apply pN | apply pD | refine pS ?_ au.out | refine pS ?_ ay.out) | exact HB.out)) hb)
           have n4_ := Aside0.mk (hbox)
           have n5_ := Aside0.mk ((by rw [hg]; exact (below_size (by repeat (first | (with_reducible first | exact HB.out | apply pA | apply pN | apply pD | refine pS ?_ au.out | refine pS ?_ ay.out) | exact HB.out))) : w.heap.size ≤ an))
           have n6_ := Aside0.mk ((by rw [hg]; exact (below_size (by repeat (first | (with_reducible first | exact HB.out | apply pA | apply pN | apply pD | refine pS ?_ au.out | refine pS ?_ ay.out) | exact HB.out))) : w.heap.size ≤ an))
           have n7_ := Aside0.mk ((by rw [hg]; exact Nat.ne_of_lt (blk_lt (g := ah) (o := .cells #[.int .i64 ab, .slice aj ad.length ak, .slice al af.length am, .slice ao ae.length ap, .string ar, .bool az, .bool ax, .int .i64 aw] 28 (0, 0)) (zB ac.out)) : ah ≠ an))
           have n8_ := Aside0.mk ((by rw [hg]; exact Nat.ne_of_gt (blk_lt (g := ah) (o := .cells #[.int .i64 ab, .slice aj ad.length ak, .slice al af.length am, .slice ao ae.length ap, .string ar, .bool az, .bool ax, .int .i64 aw] 28 (0, 0)) (zB ac.out)) : an ≠ ah))
           have n9_ := Aside0.mk ((by rw [hg]; exact Nat.ne_of_lt (blk_lt (g := ag) (o := .cells #[.int .i64 ab, .slice aj ad.length ak, .slice al af.length am, .slice ao ae.length ap] 26 (0, 0)) (zB aa.out)) : ag ≠ an))
           have n10_ := Aside0.mk ((by rw [hg]; exact Nat.ne_of_gt (blk_lt (g := ag) (o := .cells #[.int .i64 ab, .slice aj ad.length ak, .slice al af.length am, .slice ao ae.length ap] 26 (0, 0)) (zB aa.out)) : an ≠ ag))
           clear av
           clear ac
           clear aa
           clear HB
           have av := n0_
           have ac := n1_
           have aa := n2_
           have HB := n3_
           have aC := n4_
           have aM := n5_
           have aI := n6_
           have aF := n7_
           have aG := n8_
           have aA := n9_
           have aH := n10_
           clear n0_ n1_ n2_ n3_ n4_ n5_ n6_ n7_ n8_ n9_ n10_
           clear hb hbox hg
           refine hK.out _ _ ⟨(blk_cell aa.out 0).trans rfl, (blk_cell aa.out 1).trans rfl, (blk_cell aa.out 2).trans rfl, (blk_cell aa.out 3).trans rfl, HS4_, HS5_, HS6_, HS7_, HS8_, HS9_, HS10_, HS11_, HS12_⟩ (fun hHeld => ?_)
           clear hK K
           refine norm_ (a' := ?_) ?_ ?_
           rotate_left
           ·show Act.put _ (some 13) _ = _
            simp only [Act.put, sT, s0, s1, i64_w, i32_w]
            rfl
           refine one_ (i := 4) (N := some 79) #[oI, oI, oI, oI, oI, oO, oO, oO, oI, oO, oO] rfl rfl (one_of HT_.out (by kernel_rfl)) (by decide) (fun K hK => ?_)
           refine goes_ Try.func14 (by kernel_rfl) rfl #[.agg #[.int .i64 ab, .slice aj ad.length ak, .slice al af.length am, .slice ao ae.length ap], .agg #[.int .i64 ((rd_T41 ai 0).f0), .int .i64 ((rd_T41 ai 0).f1), .int .i64 ((rd_T41 ai 0).f2), .int .u32 ((rd_T41 ai 0).f3), .string ((rd_T41 ai 0).f4), .int .u64 ((rd_T41 ai 0).f5), .int .u64 ((rd_T41 ai 0).f6), .int .i64 ((rd_T41 ai 0).f7), .int .i64 ((rd_T41 ai 0).f8)]] (by rfl) rfl rfl (by (try simp only [List.map_toArray, List.map_cons, List.map_nil]); first | done | rfl | (simp only [List.length_drop, List.length_take]; rfl)) ?_
           with_reducible refine (portreeveref04_Apply.calls k ab (fun k_ => k_ < w.heap.size) _ _ ad (fun k_ => k_ < w.heap.size) _ _ af (fun k_ => k_ < w.heap.size) _ _ ae ((rd_T41 ai 0).f0) ((rd_T41 ai 0).f1) ((rd_T41 ai 0).f2) ((rd_T41 ai 0).f3) ((rd_T41 ai 0).f4) ((rd_T41 ai 0).f5) ((rd_T41 ai 0).f6) ((rd_T41 ai 0).f7) ((rd_T41 ai 0).f8) aP aV aY a8 ba _ ?side1 ?side2 ?side3 bl.out).mono ?_
           (case side1 => exact Kd.V_mk HC0_1.out (Kd.F_below (Kd.C_F k76_heap aQ.out) (by repeat (first | (with_reducible first | exact HB.out | apply pA | apply pN | apply pD | refine pS ?_ au.out | refine pS ?_ ay.out | refine pS ?_ aI.out) | exact HB.out))))
           (case side2 => exact Kd.V_mk HC0_2.out (Kd.F_below (Kd.C_F k72_heap aR.out) (by repeat (first | (with_reducible first | exact HB.out | apply pA | apply pN | apply pD | refine pS ?_ au.out | refine pS ?_ ay.out | refine pS ?_ aI.out) | exact HB.out))))
           (case side3 => exact Kd.V_mk HC0_3.out (Kd.F_below (Kd.C_F k64_heap aS.out) (by repeat (first | (with_reducible first | exact HB.out | apply pA | apply pN | apply pD | refine pS ?_ au.out | refine pS ?_ ay.out | refine pS ?_ aI.out) | exact HB.out))))
           rintro e w112 ⟨v361, v364, v367, rfl, ho0, ho1, ho2, hb⟩
           have HS4_ := (hb.cell (World.block_lt_of_cell? _ _ (hHeld.2.2.2.2.1))).trans (hHeld.2.2.2.2.1)
           have HS5_ := (hb.cell (World.block_lt_of_cell? _ _ (hHeld.2.2.2.2.2.1))).trans (hHeld.2.2.2.2.2.1)
           have HS6_ := (hb.cell (World.block_lt_of_cell? _ _ (hHeld.2.2.2.2.2.2.1))).trans (hHeld.2.2.2.2.2.2.1)
           have HS7_ := (hb.cell (World.block_lt_of_cell? _ _ (hHeld.2.2.2.2.2.2.2.1))).trans (hHeld.2.2.2.2.2.2.2.1)
           have HS8_ := (hb.cell (World.block_lt_of_cell? _ _ (hHeld.2.2.2.2.2.2.2.2.1))).trans (hHeld.2.2.2.2.2.2.2.2.1)
           have HS9_ := (hb.cell (World.block_lt_of_cell? _ _ (hHeld.2.2.2.2.2.2.2.2.2.1))).trans (hHeld.2.2.2.2.2.2.2.2.2.1)
           have HS10_ := (hb.cell (World.block_lt_of_cell? _ _ (hHeld.2.2.2.2.2.2.2.2.2.2.1))).trans (hHeld.2.2.2.2.2.2.2.2.2.2.1)
           have HS11_ := (hb.cell (World.block_lt_of_cell? _ _ (hHeld.2.2.2.2.2.2.2.2.2.2.2.1))).trans (hHeld.2.2.2.2.2.2.2.2.2.2.2.1)
           have HS12_ := (hb.cell (World.block_lt_of_cell? _ _ (hHeld.2.2.2.2.2.2.2.2.2.2.2.2))).trans (hHeld.2.2.2.2.2.2.2.2.2.2.2.2)
           refine ⟨_, rfl, ?_⟩
           have n0_ := Aside0.mk (Kd.V_below (zV av.out) hb)
           have n1_ := Aside0.mk (Kd.V_lower (Kd.V_mono (ok' := fun k_ => k_ ≠ ah ∧ k_ ≠ ag ∧ k_ ≠ an) ho0 (fun k_ hk_ => ⟨Or.elim hk_ (fun hs_ => Or.elim hs_ (fun hs_ => fun e_ => Nat.not_le.2 hs_ (by rw [e_]; exact aD.out)) (fun hs_ => Or.elim hs_ (fun hs_ => fun e_ => Nat.not_le.2 hs_ (by rw [e_]; exact aD.out)) (fun hs_ => fun e_ => Nat.not_le.2 hs_ (by rw [e_]; exact aD.out)))) (fun hn_ => (Kd.freshB (g := ah) (o := .cells #[.int .i64 ab, .slice aj ad.length ak, .slice al af.length am, .slice ao ae.length ap, .string ar, .bool az, .bool ax, .int .i64 aw] 28 (0, 0)) (zB ac.out) k_ hn_)), Or.elim hk_ (fun hs_ => Or.elim hs_ (fun hs_ => fun e_ => Nat.not_le.2 hs_ (by rw [e_]; exact aE.out)) (fun hs_ => Or.elim hs_ (fun hs_ => fun e_ => Nat.not_le.2 hs_ (by rw [e_]; exact aE.out)) (fun hs_ => fun e_ => Nat.not_le.2 hs_ (by rw [e_]; exact aE.out)))) (fun hn_ => (Kd.freshB (g := ag) (o := .cells #[.int .i64 ab, .slice aj ad.length ak, .slice al af.length am, .slice ao ae.length ap] 26 (0, 0)) (zB aa.out) k_ hn_)), Or.elim hk_ (fun hs_ => Or.elim hs_ (fun hs_ => fun e_ => Nat.not_le.2 hs_ (by rw [e_]; exact aM.out)) (fun hs_ => Or.elim hs_ (fun hs_ => fun e_ => Nat.not_le.2 hs_ (by rw [e_]; exact aM.out)) (fun hs_ => fun e_ => Nat.not_le.2 hs_ (by rw [e_]; exact aM.out)))) (fun hn_ => (Kd.freshB (g := an) (o := .cells #[.int .i64 0, .slice none 0 0, .slice none 0 0, .slice none 0 0] 26 (0, 0)) (zB aC.out) k_ hn_))⟩)) (below_size (by repeat (first | (with_reducible first | exact HB.out | apply pA | apply pN | apply pD | refine pS ?_ au.out | refine pS ?_ ay.out | refine pS ?_ aI.out) | exact HB.out))))
           have n2_ := Aside0.mk (Kd.V_lower (Kd.V_mono (ok' := fun k_ => k_ ≠ ah ∧ k_ ≠ ag ∧ k_ ≠ an) ho1 (fun k_ hk_ => ⟨Or.elim hk_ (fun hs_ => Or.elim hs_ (fun hs_ => fun e_ => Nat.not_le.2 hs_ (by rw [e_]; exact aD.out)) (fun hs_ => Or.elim hs_ (fun hs_ => fun e_ => Nat.not_le.2 hs_ (by rw [e_]; exact aD.out)) (fun hs_ => fun e_ => Nat.not_le.2 hs_ (by rw [e_]; exact aD.out)))) (fun hn_ => (Kd.freshB (g := ah) (o := .cells #[.int .i64 ab, .slice aj ad.length ak, .slice al af.length am, .slice ao ae.length ap, .string ar, .bool az, .bool ax, .int .i64 aw] 28 (0, 0)) (zB ac.out) k_ hn_)), Or.elim hk_ (fun hs_ => Or.elim hs_ (fun hs_ => fun e_ => Nat.not_le.2 hs_ (by rw [e_]; exact aE.out)) (fun hs_ => Or.elim hs_ (fun hs_ => fun e_ => Nat.not_le.2 hs_ (by rw [e_]; exact aE.out)) (fun hs_ => fun e_ => Nat.not_le.2 hs_ (by rw [e_]; exact aE.out)))) (fun hn_ => (Kd.freshB (g := ag) (o := .cells #[.int .i64 ab, .slice aj ad.length ak, .slice al af.length am, .slice ao ae.length ap] 26 (0, 0)) (zB aa.out) k_ hn_)), Or.elim hk_ (fun hs_ => Or.elim hs_ (fun hs_ => fun e_ => Nat.not_le.2 hs_ (by rw [e_]; exact aM.out)) (fun hs_ => Or.elim hs_ (fun hs_ => fun e_ => Nat.not_le.2 hs_ (by rw [e_]; exact aM.out)) (fun hs_ => fun e_ => Nat.not_le.2 hs_ (by rw [e_]; exact aM.out)))) (fun hn_ => (Kd.freshB (g := an) (o := .cells #[.int .i64 0, .slice none 0 0, .slice none 0 0, .slice none 0 0] 26 (0, 0)) (zB aC.out) k_ hn_))⟩)) (below_size (by repeat (first | (with_reducible first | exact HB.out | apply pA | apply pN | apply pD | refine pS ?_ au.out | refine pS ?_ ay.out | refine pS ?_ aI.out) | exact HB.out))))
           have n3_ := Aside0.mk (Kd.V_lower (Kd.V_mono (ok' := fun k_ => k_ ≠ ah ∧ k_ ≠ ag ∧ k_ ≠ an) ho2 (fun k_ hk_ => ⟨Or.elim hk_ (fun hs_ => Or.elim hs_ (fun hs_ => fun e_ => Nat.not_le.2 hs_ (by rw [e_]; exact aD.out)) (fun hs_ => Or.elim hs_ (fun hs_ => fun e_ => Nat.not_le.2 hs_ (by rw [e_]; exact aD.out)) (fun hs_ => fun e_ => Nat.not_le.2 hs_ (by rw [e_]; exact aD.out)))) (fun hn_ => (Kd.freshB (g := ah) (o := .cells #[.int .i64 ab, .slice aj ad.length ak, .slice al af.length am, .slice ao ae.length ap, .string ar, .bool az, .bool ax, .int .i64 aw] 28 (0, 0)) (zB ac.out) k_ hn_)), Or.elim hk_ (fun hs_ => Or.elim hs_ (fun hs_ => fun e_ => Nat.not_le.2 hs_ (by rw [e_]; exact aE.out)) (fun hs_ => Or.elim hs_ (fun hs_ => fun e_ => Nat.not_le.2 hs_ (by rw [e_]; exact aE.out)) (fun hs_ => fun e_ => Nat.not_le.2 hs_ (by rw [e_]; exact aE.out)))) (fun hn_ => (Kd.freshB (g := ag) (o := .cells #[.int .i64 ab, .slice aj ad.length ak, .slice al af.length am, .slice ao ae.length ap] 26 (0, 0)) (zB aa.out) k_ hn_)), Or.elim hk_ (fun hs_ => Or.elim hs_ (fun hs_ => fun e_ => Nat.not_le.2 hs_ (by rw [e_]; exact aM.out)) (fun hs_ => Or.elim hs_ (fun hs_ => fun e_ => Nat.not_le.2 hs_ (by rw [e_]; exact aM.out)) (fun hs_ => fun e_ => Nat.not_le.2 hs_ (by rw [e_]; exact aM.out)))) (fun hn_ => (Kd.freshB (g := an) (o := .cells #[.int .i64 0, .slice none 0 0, .slice none 0 0, .slice none 0 0] 26 (0, 0)) (zB aC.out) k_ hn_))⟩)) (below_size (by repeat (first | (with_reducible first | exact HB.out | apply pA | apply pN | apply pD | refine pS ?_ au.out | refine pS ?_ ay.out | refine pS ?_ aI.out) | exact HB.out))))
           have n4_ := Aside0.mk (blk_below (g := ah) (o := .cells #[.int .i64 ab, .slice aj ad.length ak, .slice al af.length am, .slice ao ae.length ap, .string ar, .bool az, .bool ax, .int .i64 aw] 28 (0, 0)) (zB ac.out) hb)
           have n5_ := Aside0.mk (blk_below (g := ag) (o := .cells #[.int .i64 ab, .slice aj ad.length ak, .slice al af.length am, .slice ao ae.length ap] 26 (0, 0)) (zB aa.out) hb)
           have n6_ := Aside0.mk (blk_below (g := an) (o := .cells #[.int .i64 0, .slice none 0 0, .slice none 0 0, .slice none 0 0] 26 (0, 0)) (zB aC.out) hb)
           have n7_ := Aside0.mk (below_step (by repeat (first | (with_reducible first | exact HB.out | apply pA | apply pN | apply pD | refine pS ?_ au.out | refine pS ?_ ay.out | refine pS ?_ aI.out) | exact HB.out)) hb)
           clear av
           clear ac
           clear aa
           clear aC
           clear HB
           have av := n0_
           have aJ := n1_
           have aK := n2_
           have aL := n3_
           have ac := n4_
           have aa := n5_
           have aC := n6_
           have HB := n7_
           clear n0_ n1_ n2_ n3_ n4_ n5_ n6_ n7_
           (try clear hb)
           (try clear hb2)
           (try clear hk)
           (try clear hi)
           (try clear ho0)
           (try clear ho1)
           (try clear ho2)
           refine hK.out _ _ ⟨(blk_cell aa.out 0).trans rfl, (blk_cell aa.out 1).trans rfl, (blk_cell aa.out 2).trans rfl, (blk_cell aa.out 3).trans rfl, HS4_, HS5_, HS6_, HS7_, HS8_, HS9_, HS10_, HS11_, HS12_⟩ (fun hHeld => ?_)
           clear hK K
           refine norm_ (a' := ?_) ?_ ?_
           rotate_left
           ·show Act.put _ (some 79) _ = _
            simp only [Act.put, sT, s0, s1, i64_w, i32_w]
            rfl
           refine pure_ (i := 5) (N := some 74) (v := ?_) (a' := ?_) #[oI, oI, oI, oI, oI, oI, oO, oO, oI, oO, oO] rfl rfl (any_of HT_.out (by kernel_rfl)) (fun _ _ _ h => h) (Or.inl ⟨by rfl, ?_⟩) ?_ ?_
           rotate_left
           ·intro w'
            go_simp
            with_reducible rfl
           rotate_left
           ·simp only [Act.put, sT, s0, s1, i64_w, i32_w]
            rfl
           refine pure_ (i := 6) (N := some 80) (v := ?_) (a' := ?_) #[oI, oI, oI, oI, oI, oI, oI, oO, oI, oO, oO] rfl rfl (any_of HT_.out (by kernel_rfl)) (fun _ _ _ h => h) (Or.inl ⟨by rfl, ?_⟩) ?_ ?_
           rotate_left
           ·intro w'
            go_simp
            with_reducible rfl
           rotate_left
           ·simp only [Act.put, sT, s0, s1, i64_w, i32_w]
            rfl
           refine pure_ (i := 7) (N := some 81) (v := ?_) (a' := ?_) #[oI, oI, oI, oI, oI, oI, oI, oI, oI, oO, oO] rfl rfl (any_of HT_.out (by kernel_rfl)) (fun _ _ _ h => h) (Or.inl ⟨by rfl, ?_⟩) ?_ ?_
           rotate_left
           ·intro w'
            go_simp
            with_reducible rfl
           rotate_left
           ·simp only [Act.put, sT, s0, s1, i64_w, i32_w]
            rfl
           exact norm_ (by simp only [putAll, Act.put, sT, s0, s1]) (hCont (v361, v364, v367, an) _ ⟨hHeld, (zV (Kd.V_mono av.out (fun _ hk => ⟨hk.1.1, ⟨hk.1.2, hk.2⟩⟩))), (zV aJ.out), (zV aK.out), (zV aL.out), (zB ac.out), (zB aa.out), (zB aC.out), aM.out, aI.out, aF.out, aG.out, aA.out, aH.out, (by repeat (first | (with_reducible first | exact HB.out | apply pA | apply pN | apply pD | refine pS ?_ au.out | refine pS ?_ ay.out | refine pS ?_ aI.out) | exact HB.out))⟩)
         rintro ⟨v361, v364, v367, an⟩ w113 ⟨hS_, h0_, h1_, h2_, h3_, h4_, h5_, h6_, h7_, h8_, h9_, h10_, h11_, h12_, h13_⟩
         have n0_ : Aside0 (Kd.V k41 41 w113 w.heap.size (fun k_ => k_ ≠ ah ∧ k_ ≠ ag ∧ k_ ≠ an) (.slice (some aq) ai.length bx) ai) := ⟨h0_⟩
         have n1_ : Aside0 (Kd.V k76 76 w113 w.heap.size (fun k_ => k_ ≠ ah ∧ k_ ≠ ag ∧ k_ ≠ an) v361 aV) := ⟨h1_⟩
         have n2_ : Aside0 (Kd.V k72 72 w113 w.heap.size (fun k_ => k_ ≠ ah ∧ k_ ≠ ag ∧ k_ ≠ an) v364 aY) := ⟨h2_⟩
         have n3_ : Aside0 (Kd.V k64 64 w113 w.heap.size (fun k_ => k_ ≠ ah ∧ k_ ≠ ag ∧ k_ ≠ an) v367 a8) := ⟨h3_⟩
         have n4_ : Aside0 (w113.heap[ah]? = some (.cells #[.int .i64 ab, .slice aj ad.length ak, .slice al af.length am, .slice ao ae.length ap, .string ar, .bool az, .bool ax, .int .i64 aw] 28 (0, 0))) := ⟨h4_⟩
         have n5_ : Aside0 (w113.heap[ag]? = some (.cells #[.int .i64 ab, .slice aj ad.length ak, .slice al af.length am, .slice ao ae.length ap] 26 (0, 0))) := ⟨h5_⟩
         have n6_ : Aside0 (w113.heap[an]? = some (.cells #[.int .i64 0, .slice none 0 0, .slice none 0 0, .slice none 0 0] 26 (0, 0))) := ⟨h6_⟩
         have n7_ : Aside0 (w.heap.size ≤ an) := ⟨h7_⟩
         have n8_ : Aside0 (w.heap.size ≤ an) := ⟨h8_⟩
         have n9_ : Aside0 (ah ≠ an) := ⟨h9_⟩
         have n10_ : Aside0 (an ≠ ah) := ⟨h10_⟩
         have n11_ : Aside0 (ag ≠ an) := ⟨h11_⟩
         have n12_ : Aside0 (an ≠ ag) := ⟨h12_⟩
         have n13_ : Aside0 (Below w.heap.size w w113) := ⟨h13_⟩
         clear av
         clear ac
         clear aa
         clear HB
         clear h0_ h1_ h2_ h3_ h4_ h5_ h6_ h7_ h8_ h9_ h10_ h11_ h12_ h13_
         have av := n0_
         have aJ := n1_
         have aK := n2_
         have aL := n3_
         have ac := n4_
         have aa := n5_
         have aC := n6_
         have aM := n7_
         have aI := n8_
         have aF := n9_
         have aG := n10_
         have aA := n11_
         have aH := n12_
         have HB := n13_
         clear n0_ n1_ n2_ n3_ n4_ n5_ n6_ n7_ n8_ n9_ n10_ n11_ n12_ n13_
         have hHeld : w113.cell? ⟨ag, 0, none⟩ = some (.int .i64 ab) ∧ w113.cell? ⟨ag, 1, none⟩ = some (.slice aj ad.length ak) ∧ w113.cell? ⟨ag, 2, none⟩ = some (.slice al af.length am) ∧ w113.cell? ⟨ag, 3, none⟩ = some (.slice ao ae.length ap) ∧ w113.cell? aq = some (.int .i64 ((rd_T41 ai 0).f0)) ∧ w113.cell? ⟨aq.block, aq.off + 1, none⟩ = some (.int .i64 ((rd_T41 ai 0).f1)) ∧ w113.cell? ⟨aq.block, aq.off + 2, none⟩ = some (.int .i64 ((rd_T41 ai 0).f2)) ∧ w113.cell? ⟨aq.block, aq.off + 3, none⟩ = some (.int .u32 ((rd_T41 ai 0).f3)) ∧ w113.cell? ⟨aq.block, aq.off + 4, none⟩ = some (.string ((rd_T41 ai 0).f4)) ∧ w113.cell? ⟨aq.block, aq.off + 5, none⟩ = some (.int .u64 ((rd_T41 ai 0).f5)) ∧ w113.cell? ⟨aq.block, aq.off + 6, none⟩ = some (.int .u64 ((rd_T41 ai 0).f6)) ∧ w113.cell? ⟨aq.block, aq.off + 7, none⟩ = some (.int .i64 ((rd_T41 ai 0).f7)) ∧ w113.cell? ⟨aq.block, aq.off + 8, none⟩ = some (.int .i64 ((rd_T41 ai 0).f8)) := hS_
         obtain ⟨bh, bd, bz⟩ := Kd.V_slice aJ.out
         (first | subst bz | (injection bz with f1_ f2_ f3_; have f4_ := f1_.symm; have f5_ := f3_.symm; clear f1_ f2_ f3_; subst f4_; subst f5_))
         obtain ⟨bp, bi, bA⟩ := Kd.V_slice aK.out
         (first | subst bA | (injection bA with f1_ f2_ f3_; have f4_ := f1_.symm; have f5_ := f3_.symm; clear f1_ f2_ f3_; subst f4_; subst f5_))
         obtain ⟨bB, bq, bC⟩ := Kd.V_slice aL.out
         (first | subst bC | (injection bC with f1_ f2_ f3_; have f4_ := f1_.symm; have f5_ := f3_.symm; clear f1_ f2_ f3_; subst f4_; subst f5_))
         refine norm_ (a' := ?_) ?_ ?_
         rotate_left
         ·simp only [putAll, Act.put, sT, s0, s1]
          rfl
         refine one_ (i := 9) (N := none) #[oI, oI, oI, oI, oI, oI, oI, oI, oI, oI, oO] rfl rfl (one_of HT_.out (by kernel_rfl)) (by decide) (fun K hK => ?_)
         have hs114 : w113.cell? ⟨an, 0, none⟩ = some (.int .i64 0) := (blk_cell aC.out 0).trans rfl
         have hfs114 := blk_frozen aC.out 0
         have hns114_0 := aF.out
         have hns114_1 := aA.out
         have hms114_0 := aG.out
         have hms114_1 := aH.out
         have hs116 : w113.cell? ⟨an, 1, none⟩ = some (.slice none 0 0) := (blk_cell aC.out 1).trans rfl
         have hfs116 := blk_frozen aC.out 1
         have hns116_0 := aF.out
         have hns116_1 := aA.out
         have hms116_0 := aG.out
         have hms116_1 := aH.out
         have hs118 : w113.cell? ⟨an, 2, none⟩ = some (.slice none 0 0) := (blk_cell aC.out 2).trans rfl
         have hfs118 := blk_frozen aC.out 2
         have hns118_0 := aF.out
         have hns118_1 := aA.out
         have hms118_0 := aG.out
         have hms118_1 := aH.out
         have hs120 : w113.cell? ⟨an, 3, none⟩ = some (.slice none 0 0) := (blk_cell aC.out 3).trans rfl
         have hfs120 := blk_frozen aC.out 3
         have hns120_0 := aF.out
         have hns120_1 := aA.out
         have hms120_0 := aG.out
         have hms120_1 := aH.out
         refine skip_ (w1 := ?_) (by rfl) rfl ?_ ?_
         rotate_left
         ·go_simp
          rfl
         refine hK.out _ _ ⟨(fC aA.out hHeld.1), (fC aA.out hHeld.2.1), (fC aA.out hHeld.2.2.1), (fC aA.out hHeld.2.2.2.1), (fC (g1 := an) (by have z_ := Kd.own_blk (Kd.V_away av.out (fun _ hk => hk.2.2)); first | exact z_ | (rw [add_block]; exact z_) | (show (Addr.add _ _).block ≠ _; rw [add_block]; exact z_)) hHeld.2.2.2.2.1), (fC (g1 := an) (by have z_ := Kd.own_blk (Kd.V_away av.out (fun _ hk => hk.2.2)); first | exact z_ | (rw [add_block]; exact z_) | (show (Addr.add _ _).block ≠ _; rw [add_block]; exact z_)) hHeld.2.2.2.2.2.1), (fC (g1 := an) (by have z_ := Kd.own_blk (Kd.V_away av.out (fun _ hk => hk.2.2)); first | exact z_ | (rw [add_block]; exact z_) | (show (Addr.add _ _).block ≠ _; rw [add_block]; exact z_)) hHeld.2.2.2.2.2.2.1), (fC (g1 := an) (by have z_ := Kd.own_blk (Kd.V_away av.out (fun _ hk => hk.2.2)); first | exact z_ | (rw [add_block]; exact z_) | (show (Addr.add _ _).block ≠ _; rw [add_block]; exact z_)) hHeld.2.2.2.2.2.2.2.1), (fC (g1 := an) (by have z_ := Kd.own_blk (Kd.V_away av.out (fun _ hk => hk.2.2)); first | exact z_ | (rw [add_block]; exact z_) | (show (Addr.add _ _).block ≠ _; rw [add_block]; exact z_)) hHeld.2.2.2.2.2.2.2.2.1), (fC (g1 := an) (by have z_ := Kd.own_blk (Kd.V_away av.out (fun _ hk => hk.2.2)); first | exact z_ | (rw [add_block]; exact z_) | (show (Addr.add _ _).block ≠ _; rw [add_block]; exact z_)) hHeld.2.2.2.2.2.2.2.2.2.1), (fC (g1 := an) (by have z_ := Kd.own_blk (Kd.V_away av.out (fun _ hk => hk.2.2)); first | exact z_ | (rw [add_block]; exact z_) | (show (Addr.add _ _).block ≠ _; rw [add_block]; exact z_)) hHeld.2.2.2.2.2.2.2.2.2.2.1), (fC (g1 := an) (by have z_ := Kd.own_blk (Kd.V_away av.out (fun _ hk => hk.2.2)); first | exact z_ | (rw [add_block]; exact z_) | (show (Addr.add _ _).block ≠ _; rw [add_block]; exact z_)) hHeld.2.2.2.2.2.2.2.2.2.2.2.1), (fC (g1 := an) (by have z_ := Kd.own_blk (Kd.V_away av.out (fun _ hk => hk.2.2)); first | exact z_ | (rw [add_block]; exact z_) | (show (Addr.add _ _).block ≠ _; rw [add_block]; exact z_)) hHeld.2.2.2.2.2.2.2.2.2.2.2.2)⟩ (fun hHeld => ?_)
         clear hK K
         refine pure_ (i := 10) (N := some 14) (v := ?_) (a' := ?_) #[oI, oI, oI, oI, oI, oI, oI, oI, oI, oI, oI] rfl rfl (any_of HT_.out (by kernel_rfl)) (fun _ _ _ h => h) (Or.inl ⟨by rfl, ?_⟩) ?_ ?_
         rotate_left
         ·intro w'
          go_simp
          with_reducible rfl
         rotate_left
         ·simp only [Act.put, sT, s0, s1, i64_w, i32_w]
          rfl
         refine done_ (done_of HT_.out (by kernel_rfl)) ?_
         have kA := aG.out
         have kB := aF.out
         have kC := aH.out
         have kD := aA.out
         obtain ⟨c5, c6, da, db, dc, dd, de, df⟩ := bk4 aC.out
         try go_wp2_with (first | ((with_reducible refine gate_callee (f := 12) rfl ?_); refine goesL_ (some 85) rfl rfl Try.func12 (by kernel_rfl) rfl #[.agg #[.int .i64 aP, .slice bh aV.length bd, .slice bp aY.length bi, .slice bB a8.length bq], .string ar] rfl (by (try simp only [List.map_toArray, List.map_cons, List.map_nil]); first | done | rfl | (simp only [List.length_drop, List.length_take]; rfl)) ?_; (with_reducible refine (gate_Failed.calls aP _ _ aV _ _ aY _ _ a8 ar bc bt _ ?side1 ?side2 ?side3 ?side4 ?side5 ?side6 bw.out).mono ?_); (case side1 => refine (Kd.V_reads' (e := 76) (base := w.heap.size) (ok := fun k_ => (k_ ≠ ah ∧ (k_ ≠ ag ∧ k_ ≠ an))) (n := aV.length) (c := bd) ?_).2.2; exact (fV aJ.out (fun k_ hk => (⟨hk, hk.2.2⟩ : _ ∧ k_ ≠ an)) (fun _ h_ => h_.1))); (case side2 => exact (Kd.V_reads' aJ.out).2.1); (case side3 => refine (Kd.V_reads' (e := 72) (base := w.heap.size) (ok := fun k_ => (k_ ≠ ah ∧ (k_ ≠ ag ∧ k_ ≠ an))) (n := aY.length) (c := bi) ?_).2.2; exact (fV aK.out (fun k_ hk => (⟨hk, hk.2.2⟩ : _ ∧ k_ ≠ an)) (fun _ h_ => h_.1))); (case side4 => exact (Kd.V_reads' aK.out).2.1); (case side5 => refine (Kd.V_reads' (e := 64) (base := w.heap.size) (ok := fun k_ => (k_ ≠ ah ∧ (k_ ≠ ag ∧ k_ ≠ an))) (n := a8.length) (c := bq) ?_).2.2; exact (fV aL.out (fun k_ hk => (⟨hk, hk.2.2⟩ : _ ∧ k_ ≠ an)) (fun _ h_ => h_.1))); (case side6 => exact (Kd.V_reads' aL.out).2.1); rintro e w124 ⟨rfl, hb⟩; refine ⟨_, rfl, ?_⟩; have n0_ := Aside0.mk (Kd.V_below (fV av.out (fun k_ hk => (⟨hk, hk.2.2⟩ : _ ∧ k_ ≠ an)) (fun _ h_ => h_.1)) hb); have n1_ := Aside0.mk (Kd.V_below (fV aJ.out (fun k_ hk => (⟨hk, hk.2.2⟩ : _ ∧ k_ ≠ an)) (fun _ h_ => h_.1)) hb); have n2_ := Aside0.mk (Kd.V_below (fV aK.out (fun k_ hk => (⟨hk, hk.2.2⟩ : _ ∧ k_ ≠ an)) (fun _ h_ => h_.1)) hb); have n3_ := Aside0.mk (Kd.V_below (fV aL.out (fun k_ hk => (⟨hk, hk.2.2⟩ : _ ∧ k_ ≠ an)) (fun _ h_ => h_.1)) hb); have n4_ := Aside0.mk (blk_below (g := ah) (o := .cells #[.int .i64 ab, .slice aj ad.length ak, .slice al af.length am, .slice ao ae.length ap, .string ar, .bool az, .bool ax, .int .i64 aw] 28 (0, 0)) (fB aF.out ac.out) hb); have n5_ := Aside0.mk (blk_below (g := ag) (o := .cells #[.int .i64 ab, .slice aj ad.length ak, .slice al af.length am, .slice ao ae.length ap] 26 (0, 0)) (fB aA.out aa.out) hb); have n6_ := Aside0.mk (blk_below (g := an) (o := .cells #[.int .i64 aP, .slice bh aV.length bd, .slice bp aY.length bi, .slice bB a8.length bq] 26 (0, 0)) (by (with_reducible repeat (first | refine qN ?_ _ | refine qD ?_ | refine qA ?_ _)); refine blk_put (cs := #[.int .i64 aP, .slice bh aV.length bd, .slice bp aY.length bi, .slice none 0 0]) ?_ 3 _ rfl; (with_reducible repeat (first | refine qN ?_ _ | refine qD ?_ | refine qA ?_ _)); refine blk_put (cs := #[.int .i64 aP, .slice bh aV.length bd, .slice none 0 0, .slice none 0 0]) ?_ 2 _ rfl; (with_reducible repeat (first | refine qN ?_ _ | refine qD ?_ | refine qA ?_ _)); refine blk_put (cs := #[.int .i64 aP, .slice none 0 0, .slice none 0 0, .slice none 0 0]) ?_ 1 _ rfl; (with_reducible repeat (first | refine qN ?_ _ | refine qD ?_ | refine qA ?_ _)); refine blk_put (cs := #[.int .i64 0, .slice none 0 0, .slice none 0 0, .slice none 0 0]) ?_ 0 _ rfl; (with_reducible repeat (first | refine qN ?_ _ | refine qD ?_ | refine qA ?_ _)); exact aC.out) hb); have n7_ := Aside0.mk (below_step (by repeat (first | (with_reducible first | exact HB.out | apply pA | apply pN | apply pD | refine pS ?_ au.out | refine pS ?_ ay.out | refine pS ?_ aI.out) | exact HB.out)) hb); clear av; clear aJ; clear aK; clear aL; clear ac; clear aa; clear aC; clear HB; have av := n0_; have aJ := n1_; have aK := n2_; have aL := n3_; have ac := n4_; have aa := n5_; have aC := n6_; have HB := n7_; clear n0_ n1_ n2_ n3_ n4_ n5_ n6_ n7_; (try clear hb); (try clear hb2); (try clear hk); (try clear hi)))
         go_ret
         exact ⟨by first | rfl | (simp [errW_none, errW_some] <;> rfl) | (simp only [← hji95]; first | rfl | (simp [errW_none, errW_some] <;> rfl)) | (simp [*, errW_none, errW_some] <;> rfl), by repeat (first | (with_reducible first | exact HB.out | apply pA | apply pN | apply pD | refine pS ?_ au.out | refine pS ?_ ay.out | refine pS ?_ aI.out) | exact HB.out)⟩
       ·rw [if_neg c63] at H
        have b0 : (aX == ax) = false := by simpa using c63
        (try (have b1 : decide (aX = ax) = false := by simpa using c63))
        (try (have b2 : (aX == ax) = false := by simpa using c63))
        (try (have k3 : ¬ (aX = ax) := by simpa using c63))
        clear c63
        exact absurd ((Option.some.inj H).trans hlaw_.out) (by decide)
      ·rw [if_neg c62] at H
       have bY : ((ai.length : Int) == 1) = false := beq_eq_false_iff_ne.mpr c62
       have bZ : ((ai.length : Int) != 1) = true := bne_iff_ne.mpr c62
       exact absurd ((Option.some.inj H).trans hlaw_.out) (by decide)
     ·replace c61 := Bool.eq_false_iff.mpr c61
      subst c61
      have H1 : (some false) = some r := by rw [if_neg (show ¬ (false = true) by decide)] at H; exact H
      clear H
      have H := H1
      clear H1
      exact absurd ((Option.some.inj H).trans hlaw_.out) (by decide)
    ·rw [if_neg c60] at H
     have bW : (ba == 0) = false := beq_eq_false_iff_ne.mpr c60
     have bX : (ba != 0) = true := bne_iff_ne.mpr c60
     by_cases c125 : aU = true
     ·subst c125
      have H1 : (if (ai.length : Int) = 1 then (if aX = true then (some false) else (if aT = 0 then (some ((ae.length : Int) == 8)) else (some false))) else (some false)) = some r := by rw [if_pos rfl] at H; exact H
      clear H
      have H := H1
      clear H1
      by_cases c126 : (ai.length : Int) = 1
      ·rw [if_pos c126] at H
       have bQ : ((ai.length : Int) == 1) = true := beq_iff_eq.mpr c126
       have bR : ((ai.length : Int) != 1) = false := bne_eq_false_iff_eq.mpr c126
       clear c126
       by_cases c127 : aX = true
       ·subst c127
        have H1 : (some false) = some r := by rw [if_pos rfl] at H; exact H
        clear H
        have H := H1
        clear H1
        exact absurd ((Option.some.inj H).trans hlaw_.out) (by decide)
       ·replace c127 := Bool.eq_false_iff.mpr c127
        subst c127
        have H1 : (if aT = 0 then (some ((ae.length : Int) == 8)) else (some false)) = some r := by rw [if_neg (show ¬ (false = true) by decide)] at H; exact H
        clear H
        have H := H1
        clear H1
        by_cases c128 : aT = 0
        ·rw [if_pos c128] at H
         have bS : (aT == 0) = true := beq_iff_eq.mpr c128
         have bT : (aT != 0) = false := bne_eq_false_iff_eq.mpr c128
         clear c128
         clear hlaw_
         obtain rfl := Option.some.inj H
         go_enter Try.func3, Try.ntmps3
         try go_wp2_with (first | ((with_reducible refine gate_dst (N := 1) rfl ?_); (try (refine gate_guard (by rfl) ?_; dsimp only)); refine box_event ?hg (N := 1) ?hd (cs := #[.int .i64 ab, .slice aj ad.length ak, .slice al af.length am, .slice ao ae.length ap, .string ar, .bool az, .bool ax, .int .i64 aw]) (t := 28) ?hr ?_; (case hd => rfl); (case hg => rfl); (case hr => first | (go_simp; done) | (go_simp; rfl)); intro ah hg w129 hbox hb; have n0_ := Aside0.mk (below_step (zH HB.out) hb); have n1_ := Aside0.mk (hbox); have n2_ := Aside0.mk ((by rw [hg]; exact (below_size (zH HB.out)) : w.heap.size ≤ ah)); have n3_ := Aside0.mk ((by rw [hg]; exact (below_size (zH HB.out)) : w.heap.size ≤ ah)); clear HB; have HB := n0_; have ac := n1_; have aD := n2_; have au := n3_; clear n0_ n1_ n2_ n3_; clear hb hbox hg; obtain ⟨dg, dh, di, dj, dk, dl, dm, dn, dp, dq, dr, dt, du, dv, dw, dx⟩ := bk8 ac.out) | ((with_reducible refine gate_dst (N := 3) rfl ?_); (try (refine gate_guard (by rfl) ?_; dsimp only)); refine box_event ?hg (N := 3) ?hd (cs := #[.int .i64 0, .slice none 0 0, .slice none 0 0, .slice none 0 0]) (t := 26) ?hr ?_; (case hd => rfl); (case hg => rfl); (case hr => first | (go_simp; done) | (go_simp; rfl)); intro ag hg w131 hbox hb; have n0_ := Aside0.mk (blk_below (g := ah) (o := .cells #[.int .i64 ab, .slice aj ad.length ak, .slice al af.length am, .slice ao ae.length ap, .string ar, .bool az, .bool ax, .int .i64 aw] 28 (0, 0)) (zB ac.out) hb); have n1_ := Aside0.mk (below_step (by repeat (first | (with_reducible first | exact HB.out | apply pA | apply pN | apply pD | refine pS ?_ au.out) | exact HB.out)) hb); have n2_ := Aside0.mk (hbox); have n3_ := Aside0.mk ((by rw [hg]; exact (below_size (by repeat (first | (with_reducible first | exact HB.out | apply pA | apply pN | apply pD | refine pS ?_ au.out) | exact HB.out))) : w.heap.size ≤ ag)); have n4_ := Aside0.mk ((by rw [hg]; exact (below_size (by repeat (first | (with_reducible first | exact HB.out | apply pA | apply pN | apply pD | refine pS ?_ au.out) | exact HB.out))) : w.heap.size ≤ ag)); have n5_ := Aside0.mk ((by rw [hg]; exact Nat.ne_of_lt (blk_lt (g := ah) (o := .cells #[.int .i64 ab, .slice aj ad.length ak, .slice al af.length am, .slice ao ae.length ap, .string ar, .bool az, .bool ax, .int .i64 aw] 28 (0, 0)) (zB ac.out)) : ah ≠ ag)); have n6_ := Aside0.mk ((by rw [hg]; exact Nat.ne_of_gt (blk_lt (g := ah) (o := .cells #[.int .i64 ab, .slice aj ad.length ak, .slice al af.length am, .slice ao ae.length ap, .string ar, .bool az, .bool ax, .int .i64 aw] 28 (0, 0)) (zB ac.out)) : ag ≠ ah)); clear ac; clear HB; have ac := n0_; have HB := n1_; have aa := n2_; have aE := n3_; have ay := n4_; have aN := n5_; have aW := n6_; clear n0_ n1_ n2_ n3_ n4_ n5_ n6_; clear hb hbox hg; have kE := aW.out; have kF := aN.out; obtain ⟨dy, dz, dA, dB, dC, dD, dE, dF⟩ := bk4 aa.out; obtain ⟨dG, dH, dI, dJ, dK, dL, dM, dN, dO, dP, dQ, dR, dS, dT, dU, dV⟩ := bk8 ac.out) | ((with_reducible refine gate_callee (f := 9) rfl ?_); refine goesL_ (some 27) rfl rfl Try.func9 (by kernel_rfl) rfl #[] rfl (by (try simp only [List.map_toArray, List.map_cons, List.map_nil]); first | done | rfl | (simp only [List.length_drop, List.length_take]; rfl)) ?_; (with_reducible refine (portreevelaw16_shown.calls k  true _ A2.out).mono ?_); rintro e w135 ⟨rfl, hb⟩; refine ⟨_, rfl, ?_⟩; have n0_ := Aside0.mk (blk_below (g := ah) (o := .cells #[.int .i64 ab, .slice aj ad.length ak, .slice al af.length am, .slice ao ae.length ap, .string ar, .bool az, .bool ax, .int .i64 aw] 28 (0, 0)) (fB aN.out ac.out) hb); have n1_ := Aside0.mk (blk_below (g := ag) (o := .cells #[.int .i64 ab, .slice aj ad.length ak, .slice al af.length am, .slice ao ae.length ap] 26 (0, 0)) (by (with_reducible repeat (first | refine qN ?_ _ | refine qD ?_ | refine qA ?_ _)); refine blk_put (cs := #[.int .i64 ab, .slice aj ad.length ak, .slice al af.length am, .slice none 0 0]) ?_ 3 _ rfl; (with_reducible repeat (first | refine qN ?_ _ | refine qD ?_ | refine qA ?_ _)); refine blk_put (cs := #[.int .i64 ab, .slice aj ad.length ak, .slice none 0 0, .slice none 0 0]) ?_ 2 _ rfl; (with_reducible repeat (first | refine qN ?_ _ | refine qD ?_ | refine qA ?_ _)); refine blk_put (cs := #[.int .i64 ab, .slice none 0 0, .slice none 0 0, .slice none 0 0]) ?_ 1 _ rfl; (with_reducible repeat (first | refine qN ?_ _ | refine qD ?_ | refine qA ?_ _)); refine blk_put (cs := #[.int .i64 0, .slice none 0 0, .slice none 0 0, .slice none 0 0]) ?_ 0 _ rfl; (with_reducible repeat (first | refine qN ?_ _ | refine qD ?_ | refine qA ?_ _)); exact aa.out) hb); have n2_ := Aside0.mk (below_step (by repeat (first | (with_reducible first | exact HB.out | apply pA | apply pN | apply pD | refine pS ?_ au.out | refine pS ?_ ay.out) | exact HB.out)) hb); clear ac; clear aa; clear HB; have ac := n0_; have aa := n1_; have HB := n2_; clear n0_ n1_ n2_; (try clear hb); (try clear hb2); (try clear hk); (try clear hi); obtain ⟨dW, dX, dY, dZ, d0, d1, d2, d3⟩ := bk4 aa.out) | ((with_reducible refine gate_callee (f := 10) rfl ?_); refine goesL_ (some 31) rfl rfl Try.func10 (by kernel_rfl) rfl #[.agg #[.int .i64 ab, .slice aj ad.length ak, .slice al af.length am, .slice ao ae.length ap], .string ar, .int .i64 aw] rfl (by (try simp only [List.map_toArray, List.map_cons, List.map_nil]); first | done | rfl | (simp only [List.length_drop, List.length_take]; rfl)) ?_; (with_reducible refine (portreevelaw16_may.calls k ab _ _ ad _ _ af _ _ ae ar aw true _ ?side1 ?side2 ?side3 ?side4 ?side5 ?side6 A3.out).mono ?_); (case side1 => repeat (first | exact (Kd.C_below aQ.out HB.out) | (with_reducible refine Kd.C_alloc ?_ _) | (with_reducible refine Kd.C_drewN ?_ _) | (with_reducible refine Kd.C_drew ?_))); (case side2 => exact HC0_1.out); (case side3 => repeat (first | exact (Kd.C_below aR.out HB.out) | (with_reducible refine Kd.C_alloc ?_ _) | (with_reducible refine Kd.C_drewN ?_ _) | (with_reducible refine Kd.C_drew ?_))); (case side4 => exact HC0_2.out); (case side5 => repeat (first | exact (Kd.C_below aS.out HB.out) | (with_reducible refine Kd.C_alloc ?_ _) | (with_reducible refine Kd.C_drewN ?_ _) | (with_reducible refine Kd.C_drew ?_))); (case side6 => exact HC0_3.out); rintro e w137 ⟨rfl, hb⟩; refine ⟨_, rfl, ?_⟩; have n0_ := Aside0.mk (blk_below (g := ah) (o := .cells #[.int .i64 ab, .slice aj ad.length ak, .slice al af.length am, .slice ao ae.length ap, .string ar, .bool az, .bool ax, .int .i64 aw] 28 (0, 0)) (zB ac.out) hb); have n1_ := Aside0.mk (blk_below (g := ag) (o := .cells #[.int .i64 ab, .slice aj ad.length ak, .slice al af.length am, .slice ao ae.length ap] 26 (0, 0)) (zB aa.out) hb); have n2_ := Aside0.mk (below_step (by repeat (first | (with_reducible first | exact HB.out | apply pA | apply pN | apply pD | refine pS ?_ au.out | refine pS ?_ ay.out) | exact HB.out)) hb); clear ac; clear aa; clear HB; have ac := n0_; have aa := n1_; have HB := n2_; clear n0_ n1_ n2_; (try clear hb); (try clear hb2); (try clear hk); (try clear hi); obtain ⟨d4, d5, d6, d7, d8, d9, ea, eb⟩ := bk4 aa.out) | ((with_reducible refine gate_callee (f := 11) rfl ?_); refine goesL_ (some 40) rfl rfl Try.func11 (by kernel_rfl) rfl #[.agg #[.int .i64 ab, .slice aj ad.length ak, .slice al af.length am, .slice ao ae.length ap], .string ar, .bool az, .bool ax, .int .i64 aw] rfl (by (try simp only [List.map_toArray, List.map_cons, List.map_nil]); first | done | rfl | (simp only [List.length_drop, List.length_take]; rfl)) ?_; (with_reducible refine (gate_Verdict.calls k ab _ _ ad _ _ af _ _ ae ar az ax aw false ai _ ?side1 ?side2 ?side3 ?side4 ?side5 ?side6 A5.out).mono ?_); (case side1 => repeat (first | exact (Kd.C_below aQ.out HB.out) | (with_reducible refine Kd.C_alloc ?_ _) | (with_reducible refine Kd.C_drewN ?_ _) | (with_reducible refine Kd.C_drew ?_))); (case side2 => exact HC0_1.out); (case side3 => repeat (first | exact (Kd.C_below aR.out HB.out) | (with_reducible refine Kd.C_alloc ?_ _) | (with_reducible refine Kd.C_drewN ?_ _) | (with_reducible refine Kd.C_drew ?_))); (case side4 => exact HC0_2.out); (case side5 => repeat (first | exact (Kd.C_below aS.out HB.out) | (with_reducible refine Kd.C_alloc ?_ _) | (with_reducible refine Kd.C_drewN ?_ _) | (with_reducible refine Kd.C_drew ?_))); (case side6 => exact HC0_3.out); rintro e w139 ⟨v353, rfl, ho0, hb⟩; refine ⟨_, rfl, ?_⟩; have n0_ := Aside0.mk (Kd.V_lower (Kd.V_mono (ok' := fun k_ => k_ ≠ ah ∧ k_ ≠ ag) ho0 (fun k_ hk_ => ⟨(Kd.freshB (g := ah) (o := .cells #[.int .i64 ab, .slice aj ad.length ak, .slice al af.length am, .slice ao ae.length ap, .string ar, .bool az, .bool ax, .int .i64 aw] 28 (0, 0)) (zB ac.out) k_ hk_), (Kd.freshB (g := ag) (o := .cells #[.int .i64 ab, .slice aj ad.length ak, .slice al af.length am, .slice ao ae.length ap] 26 (0, 0)) (zB aa.out) k_ hk_)⟩)) (below_size (by repeat (first | (with_reducible first | exact HB.out | apply pA | apply pN | apply pD | refine pS ?_ au.out | refine pS ?_ ay.out) | exact HB.out)))); have n1_ := Aside0.mk (blk_below (g := ah) (o := .cells #[.int .i64 ab, .slice aj ad.length ak, .slice al af.length am, .slice ao ae.length ap, .string ar, .bool az, .bool ax, .int .i64 aw] 28 (0, 0)) (zB ac.out) hb); have n2_ := Aside0.mk (blk_below (g := ag) (o := .cells #[.int .i64 ab, .slice aj ad.length ak, .slice al af.length am, .slice ao ae.length ap] 26 (0, 0)) (zB aa.out) hb); have n3_ := Aside0.mk (below_step (by repeat (first | (with_reducible first | exact HB.out | apply pA | apply pN | apply pD | refine pS ?_ au.out | refine pS ?_ ay.out) | exact HB.out)) hb); clear ac; clear aa; clear HB; have av := n0_; have ac := n1_; have aa := n2_; have HB := n3_; clear n0_ n1_ n2_ n3_; (try clear hb); (try clear hb2); (try clear hk); (try clear hi); (try clear ho0); obtain ⟨ec, ed, ee, ef, eg, eh, ei, ej⟩ := bk4 aa.out) | ((with_reducible refine gate_callee (f := 12) rfl ?_); refine goesL_ (some 46) rfl rfl Try.func12 (by kernel_rfl) rfl #[.agg #[.int .i64 ab, .slice aj ad.length ak, .slice al af.length am, .slice ao ae.length ap], .string ar] rfl (by (try simp only [List.map_toArray, List.map_cons, List.map_nil]); first | done | rfl | (simp only [List.length_drop, List.length_take]; rfl)) ?_; (with_reducible refine (gate_Failed.calls ab _ _ ad _ _ af _ _ ae ar aT bg _ ?side1 ?side2 ?side3 ?side4 ?side5 ?side6 A6.out).mono ?_); (case side1 => repeat (first | exact (Kd.C_below aQ.out HB.out) | (with_reducible refine Kd.C_alloc ?_ _) | (with_reducible refine Kd.C_drewN ?_ _) | (with_reducible refine Kd.C_drew ?_))); (case side2 => exact HC0_1.out); (case side3 => repeat (first | exact (Kd.C_below aR.out HB.out) | (with_reducible refine Kd.C_alloc ?_ _) | (with_reducible refine Kd.C_drewN ?_ _) | (with_reducible refine Kd.C_drew ?_))); (case side4 => exact HC0_2.out); (case side5 => repeat (first | exact (Kd.C_below aS.out HB.out) | (with_reducible refine Kd.C_alloc ?_ _) | (with_reducible refine Kd.C_drewN ?_ _) | (with_reducible refine Kd.C_drew ?_))); (case side6 => exact HC0_3.out); rintro e w141 ⟨rfl, hb⟩; refine ⟨_, rfl, ?_⟩; have n0_ := Aside0.mk (Kd.V_below (zV av.out) hb); have n1_ := Aside0.mk (blk_below (g := ah) (o := .cells #[.int .i64 ab, .slice aj ad.length ak, .slice al af.length am, .slice ao ae.length ap, .string ar, .bool az, .bool ax, .int .i64 aw] 28 (0, 0)) (zB ac.out) hb); have n2_ := Aside0.mk (blk_below (g := ag) (o := .cells #[.int .i64 ab, .slice aj ad.length ak, .slice al af.length am, .slice ao ae.length ap] 26 (0, 0)) (zB aa.out) hb); have n3_ := Aside0.mk (below_step (by repeat (first | (with_reducible first | exact HB.out | apply pA | apply pN | apply pD | refine pS ?_ au.out | refine pS ?_ ay.out) | exact HB.out)) hb); clear av; clear ac; clear aa; clear HB; have av := n0_; have ac := n1_; have aa := n2_; have HB := n3_; clear n0_ n1_ n2_ n3_; (try clear hb); (try clear hb2); (try clear hk); (try clear hi); obtain ⟨k4, bD, b6⟩ := Kd.V_slice av.out; subst b6))
         have n0_ := Aside0.mk (Kd.V_drew av.out)
         have n1_ := Aside0.mk (qD ac.out)
         have n2_ := Aside0.mk (qD aa.out)
         have n3_ := Aside0.mk (pD HB.out)
         clear av
         clear ac
         clear aa
         clear HB
         have av := n0_
         have ac := n1_
         have aa := n2_
         have HB := n3_
         clear n0_ n1_ n2_ n3_
         have p358 : 0 ≤ (0 : Int) := (by omega)
         have q358 : 0 < (ai.length : Int) := of_decide_eq_true (by first | (with_reducible assumption) | assumption)
         obtain ⟨aq, e358, hx358_0, hx358_1, hx358_2, hx358_3, hx358_4, hx358_5, hx358_6, hx358_7, hx358_8⟩ := at_T41 (Kd.V_reads' av.out).2.2 0 p358 q358
         cases e358
         have qi358 : (0 < ai.length) = True := eq_true (by omega)
         (try rw [show ((0 : Int)).toNat = 0 from rfl] at hx358_0)
         (try rw [show 0 * 9 = 0 from rfl] at hx358_0)
         (try rw [Addr.add_zero'] at hx358_0)
         (try rw [show ((0 : Int)).toNat = 0 from rfl] at hx358_1)
         (try rw [show 0 * 9 = 0 from rfl] at hx358_1)
         (try rw [Addr.add_zero'] at hx358_1)
         (try rw [show ((0 : Int)).toNat = 0 from rfl] at hx358_2)
         (try rw [show 0 * 9 = 0 from rfl] at hx358_2)
         (try rw [Addr.add_zero'] at hx358_2)
         (try rw [show ((0 : Int)).toNat = 0 from rfl] at hx358_3)
         (try rw [show 0 * 9 = 0 from rfl] at hx358_3)
         (try rw [Addr.add_zero'] at hx358_3)
         (try rw [show ((0 : Int)).toNat = 0 from rfl] at hx358_4)
         (try rw [show 0 * 9 = 0 from rfl] at hx358_4)
         (try rw [Addr.add_zero'] at hx358_4)
         (try rw [show ((0 : Int)).toNat = 0 from rfl] at hx358_5)
         (try rw [show 0 * 9 = 0 from rfl] at hx358_5)
         (try rw [Addr.add_zero'] at hx358_5)
         (try rw [show ((0 : Int)).toNat = 0 from rfl] at hx358_6)
         (try rw [show 0 * 9 = 0 from rfl] at hx358_6)
         (try rw [Addr.add_zero'] at hx358_6)
         (try rw [show ((0 : Int)).toNat = 0 from rfl] at hx358_7)
         (try rw [show 0 * 9 = 0 from rfl] at hx358_7)
         (try rw [Addr.add_zero'] at hx358_7)
         (try rw [show ((0 : Int)).toNat = 0 from rfl] at hx358_8)
         (try rw [show 0 * 9 = 0 from rfl] at hx358_8)
         (try rw [Addr.add_zero'] at hx358_8)
         replace p358 := eq_true p358
         replace q358 := eq_true q358
         refine start_ (n := 11) (S := fun w' => w'.cell? ⟨ag, 0, none⟩ = some (.int .i64 ab) ∧ w'.cell? ⟨ag, 1, none⟩ = some (.slice aj ad.length ak) ∧ w'.cell? ⟨ag, 2, none⟩ = some (.slice al af.length am) ∧ w'.cell? ⟨ag, 3, none⟩ = some (.slice ao ae.length ap) ∧ w'.cell? aq = some (.int .i64 ((rd_T41 ai 0).f0)) ∧ w'.cell? ⟨aq.block, aq.off + 1, none⟩ = some (.int .i64 ((rd_T41 ai 0).f1)) ∧ w'.cell? ⟨aq.block, aq.off + 2, none⟩ = some (.int .i64 ((rd_T41 ai 0).f2)) ∧ w'.cell? ⟨aq.block, aq.off + 3, none⟩ = some (.int .u32 ((rd_T41 ai 0).f3)) ∧ w'.cell? ⟨aq.block, aq.off + 4, none⟩ = some (.string ((rd_T41 ai 0).f4)) ∧ w'.cell? ⟨aq.block, aq.off + 5, none⟩ = some (.int .u64 ((rd_T41 ai 0).f5)) ∧ w'.cell? ⟨aq.block, aq.off + 6, none⟩ = some (.int .u64 ((rd_T41 ai 0).f6)) ∧ w'.cell? ⟨aq.block, aq.off + 7, none⟩ = some (.int .i64 ((rd_T41 ai 0).f7)) ∧ w'.cell? ⟨aq.block, aq.off + 8, none⟩ = some (.int .i64 ((rd_T41 ai 0).f8))) (ds := []) #[oO, oO, oO, oO, oO, oO, oO, oO, oO, oO, oO] (by kernel_rfl) rfl rfl ⟨(blk_cell aa.out 0).trans rfl, (blk_cell aa.out 1).trans rfl, (blk_cell aa.out 2).trans rfl, (blk_cell aa.out 3).trans rfl, hx358_0, hx358_1, hx358_2, hx358_3, hx358_4, hx358_5, hx358_6, hx358_7, hx358_8⟩ (fun hHeld => ?_); refine with_tabW portreevelaw16_GateOps.tab13 portreevelaw16_GateOps.bits13 (fun HT_ HW_ => ?_)
         generalize w141.drew = w143 at av ac aa HB hx358_0 hx358_1 hx358_2 hx358_3 hx358_4 hx358_5 hx358_6 hx358_7 hx358_8 hHeld ⊢
         refine pure_ (i := 1) (N := some 76) (v := ?_) (a' := ?_) #[oO, oI, oO, oO, oO, oO, oO, oO, oO, oO, oO] rfl rfl (any_of HT_.out (by kernel_rfl)) (fun _ _ _ h => h) (Or.inl ⟨by rfl, ?_⟩) ?_ ?_
         rotate_left
         ·intro w'
          go_simp
          with_reducible rfl
         rotate_left
         ·simp only [Act.put, sT, s0, s1, i64_w, i32_w]
          rfl
         refine pure_ (i := 2) (N := some 77) (v := ?_) (a' := ?_) #[oO, oI, oI, oO, oO, oO, oO, oO, oO, oO, oO] rfl rfl (any_of HT_.out (by kernel_rfl)) (fun _ _ _ h => h) (Or.inl ⟨by rfl, ?_⟩) ?_ ?_
         rotate_left
         ·intro w'
          go_simp
          with_reducible rfl
         rotate_left
         ·simp only [Act.put, sT, s0, s1, i64_w, i32_w]
          rfl
         refine take_ (i := 0) (N := some 75) (v := ?_) (a' := ?_) #[oI, oI, oI, oO, oO, oO, oO, oO, oO, oO, oO] rfl rfl (take_ofW HT_.out HW_.out (by kernel_rfl)) (fun _ _ _ h => h) (Or.inl ⟨by rfl, ?_⟩) hHeld ?_ ?_
         rotate_left
         ·rintro w' ⟨s0, s1, s2, s3, s4, s5, s6, s7, s8, s9, s10, s11, s12⟩
          go_simp
          with_reducible rfl
         rotate_left
         ·simp only [Act.put, sT, s0, s1, i64_w, i32_w]
          rfl
         refine take_ (i := 3) (N := some 78) (v := ?_) (a' := ?_) #[oI, oI, oI, oI, oO, oO, oO, oO, oO, oO, oO] rfl rfl (take_ofW HT_.out HW_.out (by kernel_rfl)) (fun _ _ _ h => h) (Or.inl ⟨by rfl, ?_⟩) hHeld ?_ ?_
         rotate_left
         ·rintro w' ⟨s0, s1, s2, s3, s4, s5, s6, s7, s8, s9, s10, s11, s12⟩
          go_simp
          with_reducible rfl
         rotate_left
         ·simp only [Act.put, sT, s0, s1, i64_w, i32_w]
          rfl
         refine join_ (σ := Value × Value × Value × Nat) 2 #[oI, oI, oI, oI, oI, oI, oI, oI, oI, oO, oO] (fun s_ => [(79, .tuple #[.agg #[.int .i64 aP, s_.1, s_.2.1, s_.2.2.1], .int .i64 ba]), (13, .pointer (some ⟨s_.2.2.2, 0, none⟩)), (74, .tuple #[.agg #[.int .i64 aP, s_.1, s_.2.1, s_.2.2.1], .int .i64 ba]), (80, .agg #[.int .i64 aP, s_.1, s_.2.1, s_.2.2.1]), (81, .int .i64 ba)]) (fun s_ w' => (w'.cell? ⟨ag, 0, none⟩ = some (.int .i64 ab) ∧ w'.cell? ⟨ag, 1, none⟩ = some (.slice aj ad.length ak) ∧ w'.cell? ⟨ag, 2, none⟩ = some (.slice al af.length am) ∧ w'.cell? ⟨ag, 3, none⟩ = some (.slice ao ae.length ap) ∧ w'.cell? aq = some (.int .i64 ((rd_T41 ai 0).f0)) ∧ w'.cell? ⟨aq.block, aq.off + 1, none⟩ = some (.int .i64 ((rd_T41 ai 0).f1)) ∧ w'.cell? ⟨aq.block, aq.off + 2, none⟩ = some (.int .i64 ((rd_T41 ai 0).f2)) ∧ w'.cell? ⟨aq.block, aq.off + 3, none⟩ = some (.int .u32 ((rd_T41 ai 0).f3)) ∧ w'.cell? ⟨aq.block, aq.off + 4, none⟩ = some (.string ((rd_T41 ai 0).f4)) ∧ w'.cell? ⟨aq.block, aq.off + 5, none⟩ = some (.int .u64 ((rd_T41 ai 0).f5)) ∧ w'.cell? ⟨aq.block, aq.off + 6, none⟩ = some (.int .u64 ((rd_T41 ai 0).f6)) ∧ w'.cell? ⟨aq.block, aq.off + 7, none⟩ = some (.int .i64 ((rd_T41 ai 0).f7)) ∧ w'.cell? ⟨aq.block, aq.off + 8, none⟩ = some (.int .i64 ((rd_T41 ai 0).f8))) ∧ (Kd.V k41 41 w' w.heap.size (fun k_ => k_ ≠ ah ∧ k_ ≠ ag ∧ k_ ≠ s_.2.2.2) (.slice (some aq) ai.length bD) ai) ∧ (Kd.V k76 76 w' w.heap.size (fun k_ => k_ ≠ ah ∧ k_ ≠ ag ∧ k_ ≠ s_.2.2.2) s_.1 aV) ∧ (Kd.V k72 72 w' w.heap.size (fun k_ => k_ ≠ ah ∧ k_ ≠ ag ∧ k_ ≠ s_.2.2.2) s_.2.1 aY) ∧ (Kd.V k64 64 w' w.heap.size (fun k_ => k_ ≠ ah ∧ k_ ≠ ag ∧ k_ ≠ s_.2.2.2) s_.2.2.1 a8) ∧ (w'.heap[ah]? = some (.cells #[.int .i64 ab, .slice aj ad.length ak, .slice al af.length am, .slice ao ae.length ap, .string ar, .bool az, .bool ax, .int .i64 aw] 28 (0, 0))) ∧ (w'.heap[ag]? = some (.cells #[.int .i64 ab, .slice aj ad.length ak, .slice al af.length am, .slice ao ae.length ap] 26 (0, 0))) ∧ (w'.heap[s_.2.2.2]? = some (.cells #[.int .i64 0, .slice none 0 0, .slice none 0 0, .slice none 0 0] 26 (0, 0))) ∧ (w.heap.size ≤ s_.2.2.2) ∧ (w.heap.size ≤ s_.2.2.2) ∧ (ah ≠ s_.2.2.2) ∧ (s_.2.2.2 ≠ ah) ∧ (ag ≠ s_.2.2.2) ∧ (s_.2.2.2 ≠ ag) ∧ (Below w.heap.size w w')) ?_ ?_
         rotate_left
         ·intro hCont
          refine two_ (i := 4) (j := 8) (Ni := some 79) (Nj := some 13) #[oI, oI, oI, oI, oI, oO, oO, oO, oO, oO, oO] #[oI, oI, oI, oI, oO, oO, oO, oO, oI, oO, oO] rfl rfl rfl rfl (two_of HT_.out (by kernel_rfl)) (by decide) (by decide) (fun K hK => ?_) (fun K hK => ?_)
          ·skip
           refine goes_ Try.func14 (by kernel_rfl) rfl #[.agg #[.int .i64 ab, .slice aj ad.length ak, .slice al af.length am, .slice ao ae.length ap], .agg #[.int .i64 ((rd_T41 ai 0).f0), .int .i64 ((rd_T41 ai 0).f1), .int .i64 ((rd_T41 ai 0).f2), .int .u32 ((rd_T41 ai 0).f3), .string ((rd_T41 ai 0).f4), .int .u64 ((rd_T41 ai 0).f5), .int .u64 ((rd_T41 ai 0).f6), .int .i64 ((rd_T41 ai 0).f7), .int .i64 ((rd_T41 ai 0).f8)]] (by rfl) rfl rfl (by (try simp only [List.map_toArray, List.map_cons, List.map_nil]); first | done | rfl | (simp only [List.length_drop, List.length_take]; rfl)) ?_
           with_reducible refine (portreeveref04_Apply.calls k ab (fun k_ => k_ < w.heap.size) _ _ ad (fun k_ => k_ < w.heap.size) _ _ af (fun k_ => k_ < w.heap.size) _ _ ae ((rd_T41 ai 0).f0) ((rd_T41 ai 0).f1) ((rd_T41 ai 0).f2) ((rd_T41 ai 0).f3) ((rd_T41 ai 0).f4) ((rd_T41 ai 0).f5) ((rd_T41 ai 0).f6) ((rd_T41 ai 0).f7) ((rd_T41 ai 0).f8) aP aV aY a8 ba _ ?side1 ?side2 ?side3 bl.out).mono ?_
           (case side1 => exact Kd.V_mk HC0_1.out (Kd.F_below (Kd.C_F k76_heap aQ.out) (by repeat (first | (with_reducible first | exact HB.out | apply pA | apply pN | apply pD | refine pS ?_ au.out | refine pS ?_ ay.out) | exact HB.out))))
           (case side2 => exact Kd.V_mk HC0_2.out (Kd.F_below (Kd.C_F k72_heap aR.out) (by repeat (first | (with_reducible first | exact HB.out | apply pA | apply pN | apply pD | refine pS ?_ au.out | refine pS ?_ ay.out) | exact HB.out))))
           (case side3 => exact Kd.V_mk HC0_3.out (Kd.F_below (Kd.C_F k64_heap aS.out) (by repeat (first | (with_reducible first | exact HB.out | apply pA | apply pN | apply pD | refine pS ?_ au.out | refine pS ?_ ay.out) | exact HB.out))))
           rintro e w144 ⟨v361, v364, v367, rfl, ho0, ho1, ho2, hb⟩
           have HS4_ := (hb.cell (World.block_lt_of_cell? _ _ (hHeld.2.2.2.2.1))).trans (hHeld.2.2.2.2.1)
           have HS5_ := (hb.cell (World.block_lt_of_cell? _ _ (hHeld.2.2.2.2.2.1))).trans (hHeld.2.2.2.2.2.1)
           have HS6_ := (hb.cell (World.block_lt_of_cell? _ _ (hHeld.2.2.2.2.2.2.1))).trans (hHeld.2.2.2.2.2.2.1)
           have HS7_ := (hb.cell (World.block_lt_of_cell? _ _ (hHeld.2.2.2.2.2.2.2.1))).trans (hHeld.2.2.2.2.2.2.2.1)
           have HS8_ := (hb.cell (World.block_lt_of_cell? _ _ (hHeld.2.2.2.2.2.2.2.2.1))).trans (hHeld.2.2.2.2.2.2.2.2.1)
           have HS9_ := (hb.cell (World.block_lt_of_cell? _ _ (hHeld.2.2.2.2.2.2.2.2.2.1))).trans (hHeld.2.2.2.2.2.2.2.2.2.1)
           have HS10_ := (hb.cell (World.block_lt_of_cell? _ _ (hHeld.2.2.2.2.2.2.2.2.2.2.1))).trans (hHeld.2.2.2.2.2.2.2.2.2.2.1)
           have HS11_ := (hb.cell (World.block_lt_of_cell? _ _ (hHeld.2.2.2.2.2.2.2.2.2.2.2.1))).trans (hHeld.2.2.2.2.2.2.2.2.2.2.2.1)
           have HS12_ := (hb.cell (World.block_lt_of_cell? _ _ (hHeld.2.2.2.2.2.2.2.2.2.2.2.2))).trans (hHeld.2.2.2.2.2.2.2.2.2.2.2.2)
           refine ⟨_, rfl, ?_⟩
           have n0_ := Aside0.mk (Kd.V_below (zV av.out) hb)
           have n1_ := Aside0.mk (Kd.V_lower (Kd.V_mono (ok' := fun k_ => k_ ≠ ah ∧ k_ ≠ ag) ho0 (fun k_ hk_ => ⟨Or.elim hk_ (fun hs_ => Or.elim hs_ (fun hs_ => fun e_ => Nat.not_le.2 hs_ (by rw [e_]; exact aD.out)) (fun hs_ => Or.elim hs_ (fun hs_ => fun e_ => Nat.not_le.2 hs_ (by rw [e_]; exact aD.out)) (fun hs_ => fun e_ => Nat.not_le.2 hs_ (by rw [e_]; exact aD.out)))) (fun hn_ => (Kd.freshB (g := ah) (o := .cells #[.int .i64 ab, .slice aj ad.length ak, .slice al af.length am, .slice ao ae.length ap, .string ar, .bool az, .bool ax, .int .i64 aw] 28 (0, 0)) (zB ac.out) k_ hn_)), Or.elim hk_ (fun hs_ => Or.elim hs_ (fun hs_ => fun e_ => Nat.not_le.2 hs_ (by rw [e_]; exact aE.out)) (fun hs_ => Or.elim hs_ (fun hs_ => fun e_ => Nat.not_le.2 hs_ (by rw [e_]; exact aE.out)) (fun hs_ => fun e_ => Nat.not_le.2 hs_ (by rw [e_]; exact aE.out)))) (fun hn_ => (Kd.freshB (g := ag) (o := .cells #[.int .i64 ab, .slice aj ad.length ak, .slice al af.length am, .slice ao ae.length ap] 26 (0, 0)) (zB aa.out) k_ hn_))⟩)) (below_size (by repeat (first | (with_reducible first | exact HB.out | apply pA | apply pN | apply pD | refine pS ?_ au.out | refine pS ?_ ay.out) | exact HB.out))))
           have n2_ := Aside0.mk (Kd.V_lower (Kd.V_mono (ok' := fun k_ => k_ ≠ ah ∧ k_ ≠ ag) ho1 (fun k_ hk_ => ⟨Or.elim hk_ (fun hs_ => Or.elim hs_ (fun hs_ => fun e_ => Nat.not_le.2 hs_ (by rw [e_]; exact aD.out)) (fun hs_ => Or.elim hs_ (fun hs_ => fun e_ => Nat.not_le.2 hs_ (by rw [e_]; exact aD.out)) (fun hs_ => fun e_ => Nat.not_le.2 hs_ (by rw [e_]; exact aD.out)))) (fun hn_ => (Kd.freshB (g := ah) (o := .cells #[.int .i64 ab, .slice aj ad.length ak, .slice al af.length am, .slice ao ae.length ap, .string ar, .bool az, .bool ax, .int .i64 aw] 28 (0, 0)) (zB ac.out) k_ hn_)), Or.elim hk_ (fun hs_ => Or.elim hs_ (fun hs_ => fun e_ => Nat.not_le.2 hs_ (by rw [e_]; exact aE.out)) (fun hs_ => Or.elim hs_ (fun hs_ => fun e_ => Nat.not_le.2 hs_ (by rw [e_]; exact aE.out)) (fun hs_ => fun e_ => Nat.not_le.2 hs_ (by rw [e_]; exact aE.out)))) (fun hn_ => (Kd.freshB (g := ag) (o := .cells #[.int .i64 ab, .slice aj ad.length ak, .slice al af.length am, .slice ao ae.length ap] 26 (0, 0)) (zB aa.out) k_ hn_))⟩)) (below_size (by repeat (first | (with_reducible first | exact HB.out | apply pA | apply pN | apply pD | refine pS ?_ au.out | refine pS ?_ ay.out) | exact HB.out))))
           have n3_ := Aside0.mk (Kd.V_lower (Kd.V_mono (ok' := fun k_ => k_ ≠ ah ∧ k_ ≠ ag) ho2 (fun k_ hk_ => ⟨Or.elim hk_ (fun hs_ => Or.elim hs_ (fun hs_ => fun e_ => Nat.not_le.2 hs_ (by rw [e_]; exact aD.out)) (fun hs_ => Or.elim hs_ (fun hs_ => fun e_ => Nat.not_le.2 hs_ (by rw [e_]; exact aD.out)) (fun hs_ => fun e_ => Nat.not_le.2 hs_ (by rw [e_]; exact aD.out)))) (fun hn_ => (Kd.freshB (g := ah) (o := .cells #[.int .i64 ab, .slice aj ad.length ak, .slice al af.length am, .slice ao ae.length ap, .string ar, .bool az, .bool ax, .int .i64 aw] 28 (0, 0)) (zB ac.out) k_ hn_)), Or.elim hk_ (fun hs_ => Or.elim hs_ (fun hs_ => fun e_ => Nat.not_le.2 hs_ (by rw [e_]; exact aE.out)) (fun hs_ => Or.elim hs_ (fun hs_ => fun e_ => Nat.not_le.2 hs_ (by rw [e_]; exact aE.out)) (fun hs_ => fun e_ => Nat.not_le.2 hs_ (by rw [e_]; exact aE.out)))) (fun hn_ => (Kd.freshB (g := ag) (o := .cells #[.int .i64 ab, .slice aj ad.length ak, .slice al af.length am, .slice ao ae.length ap] 26 (0, 0)) (zB aa.out) k_ hn_))⟩)) (below_size (by repeat (first | (with_reducible first | exact HB.out | apply pA | apply pN | apply pD | refine pS ?_ au.out | refine pS ?_ ay.out) | exact HB.out))))
           have n4_ := Aside0.mk (blk_below (g := ah) (o := .cells #[.int .i64 ab, .slice aj ad.length ak, .slice al af.length am, .slice ao ae.length ap, .string ar, .bool az, .bool ax, .int .i64 aw] 28 (0, 0)) (zB ac.out) hb)
           have n5_ := Aside0.mk (blk_below (g := ag) (o := .cells #[.int .i64 ab, .slice aj ad.length ak, .slice al af.length am, .slice ao ae.length ap] 26 (0, 0)) (zB aa.out) hb)
           have n6_ := Aside0.mk (below_step (by repeat (first | (with_reducible first | exact HB.out | apply pA | apply pN | apply pD | refine pS ?_ au.out | refine pS ?_ ay.out) | exact HB.out)) hb)
           clear av
           clear ac
           clear aa
           clear HB
           have av := n0_
           have aJ := n1_
           have aK := n2_
           have aL := n3_
           have ac := n4_
           have aa := n5_
           have HB := n6_
           clear n0_ n1_ n2_ n3_ n4_ n5_ n6_
           (try clear hb)
           (try clear hb2)
           (try clear hk)
           (try clear hi)
           (try clear ho0)
           (try clear ho1)
           (try clear ho2)
           refine hK.out _ _ ⟨(blk_cell aa.out 0).trans rfl, (blk_cell aa.out 1).trans rfl, (blk_cell aa.out 2).trans rfl, (blk_cell aa.out 3).trans rfl, HS4_, HS5_, HS6_, HS7_, HS8_, HS9_, HS10_, HS11_, HS12_⟩ (fun hHeld => ?_)
           clear hK K
           refine norm_ (a' := ?_) ?_ ?_
           rotate_left
           ·show Act.put _ (some 79) _ = _
            simp only [Act.put, sT, s0, s1, i64_w, i32_w]
            rfl
           refine pure_ (i := 5) (N := some 74) (v := ?_) (a' := ?_) #[oI, oI, oI, oI, oI, oI, oO, oO, oO, oO, oO] rfl rfl (any_of HT_.out (by kernel_rfl)) (fun _ _ _ h => h) (Or.inl ⟨by rfl, ?_⟩) ?_ ?_
           rotate_left
           ·intro w'
            go_simp
            with_reducible rfl
           rotate_left
           ·simp only [Act.put, sT, s0, s1, i64_w, i32_w]
            rfl
           refine pure_ (i := 6) (N := some 80) (v := ?_) (a' := ?_) #[oI, oI, oI, oI, oI, oI, oI, oO, oO, oO, oO] rfl rfl (any_of HT_.out (by kernel_rfl)) (fun _ _ _ h => h) (Or.inl ⟨by rfl, ?_⟩) ?_ ?_
           rotate_left
           ·intro w'
            go_simp
            with_reducible rfl
           rotate_left
           ·simp only [Act.put, sT, s0, s1, i64_w, i32_w]
            rfl
           refine pure_ (i := 7) (N := some 81) (v := ?_) (a' := ?_) #[oI, oI, oI, oI, oI, oI, oI, oI, oO, oO, oO] rfl rfl (any_of HT_.out (by kernel_rfl)) (fun _ _ _ h => h) (Or.inl ⟨by rfl, ?_⟩) ?_ ?_
           rotate_left
           ·intro w'
            go_simp
            with_reducible rfl
           rotate_left
           ·simp only [Act.put, sT, s0, s1, i64_w, i32_w]
            rfl
           refine one_ (i := 8) (N := some 13) #[oI, oI, oI, oI, oI, oI, oI, oI, oI, oO, oO] rfl rfl (one_of HT_.out (by kernel_rfl)) (by decide) (fun K hK => ?_)
           refine box_step ?hg (N := 13) ?hd (cs := #[.int .i64 0, .slice none 0 0, .slice none 0 0, .slice none 0 0]) (t := 26) ?hr ?_; (case hd => rfl); (case hg => rfl); (case hr => first | (go_simp; done) | (go_simp; rfl))
           intro an hg w145 hbox hb
           have HS4_ := (hb.cell (World.block_lt_of_cell? _ _ (hHeld.2.2.2.2.1))).trans (hHeld.2.2.2.2.1)
           have HS5_ := (hb.cell (World.block_lt_of_cell? _ _ (hHeld.2.2.2.2.2.1))).trans (hHeld.2.2.2.2.2.1)
           have HS6_ := (hb.cell (World.block_lt_of_cell? _ _ (hHeld.2.2.2.2.2.2.1))).trans (hHeld.2.2.2.2.2.2.1)
           have HS7_ := (hb.cell (World.block_lt_of_cell? _ _ (hHeld.2.2.2.2.2.2.2.1))).trans (hHeld.2.2.2.2.2.2.2.1)
           have HS8_ := (hb.cell (World.block_lt_of_cell? _ _ (hHeld.2.2.2.2.2.2.2.2.1))).trans (hHeld.2.2.2.2.2.2.2.2.1)
           have HS9_ := (hb.cell (World.block_lt_of_cell? _ _ (hHeld.2.2.2.2.2.2.2.2.2.1))).trans (hHeld.2.2.2.2.2.2.2.2.2.1)
           have HS10_ := (hb.cell (World.block_lt_of_cell? _ _ (hHeld.2.2.2.2.2.2.2.2.2.2.1))).trans (hHeld.2.2.2.2.2.2.2.2.2.2.1)
           have HS11_ := (hb.cell (World.block_lt_of_cell? _ _ (hHeld.2.2.2.2.2.2.2.2.2.2.2.1))).trans (hHeld.2.2.2.2.2.2.2.2.2.2.2.1)
           have HS12_ := (hb.cell (World.block_lt_of_cell? _ _ (hHeld.2.2.2.2.2.2.2.2.2.2.2.2))).trans (hHeld.2.2.2.2.2.2.2.2.2.2.2.2)
           have n0_ := Aside0.mk (Kd.V_below (Kd.V_elderB (zV av.out) an (Nat.le_of_eq hg.symm)) hb)
           have n1_ := Aside0.mk (Kd.V_below (Kd.V_elderB (zV aJ.out) an (Nat.le_of_eq hg.symm)) hb)
           have n2_ := Aside0.mk (Kd.V_below (Kd.V_elderB (zV aK.out) an (Nat.le_of_eq hg.symm)) hb)
           have n3_ := Aside0.mk (Kd.V_below (Kd.V_elderB (zV aL.out) an (Nat.le_of_eq hg.symm)) hb)
           have n4_ := Aside0.mk (blk_below (g := ah) (o := .cells #[.int .i64 ab, .slice aj ad.length ak, .slice al af.length am, .slice ao ae.length ap, .string ar, .bool az, .bool ax, .int .i64 aw] 28 (0, 0)) (zB ac.out) hb)
           have n5_ := Aside0.mk (blk_below (g := ag) (o := .cells #[.int .i64 ab, .slice aj ad.length ak, .slice al af.length am, .slice ao ae.length ap] 26 (0, 0)) (zB aa.out) hb)
           have n6_ := Aside0.mk (below_step (by repeat (first | (with_reducible first | exact HB.out | apply pA | apply pN | apply pD | refine pS ?_ au.out | refine pS ?_ ay.out) | exact HB.out)) hb)
           have n7_ := Aside0.mk (hbox)
           have n8_ := Aside0.mk ((by rw [hg]; exact (below_size (by repeat (first | (with_reducible first | exact HB.out | apply pA | apply pN | apply pD | refine pS ?_ au.out | refine pS ?_ ay.out) | exact HB.out))) : w.heap.size ≤ an))
           have n9_ := Aside0.mk ((by rw [hg]; exact (below_size (by repeat (first | (with_reducible first | exact HB.out | apply pA | apply pN | apply pD | refine pS ?_ au.out | refine pS ?_ ay.out) | exact HB.out))) : w.heap.size ≤ an))
           have n10_ := Aside0.mk ((by rw [hg]; exact Nat.ne_of_lt (blk_lt (g := ah) (o := .cells #[.int .i64 ab, .slice aj ad.length ak, .slice al af.length am, .slice ao ae.length ap, .string ar, .bool az, .bool ax, .int .i64 aw] 28 (0, 0)) (zB ac.out)) : ah ≠ an))
           have n11_ := Aside0.mk ((by rw [hg]; exact Nat.ne_of_gt (blk_lt (g := ah) (o := .cells #[.int .i64 ab, .slice aj ad.length ak, .slice al af.length am, .slice ao ae.length ap, .string ar, .bool az, .bool ax, .int .i64 aw] 28 (0, 0)) (zB ac.out)) : an ≠ ah))
           have n12_ := Aside0.mk ((by rw [hg]; exact Nat.ne_of_lt (blk_lt (g := ag) (o := .cells #[.int .i64 ab, .slice aj ad.length ak, .slice al af.length am, .slice ao ae.length ap] 26 (0, 0)) (zB aa.out)) : ag ≠ an))
           have n13_ := Aside0.mk ((by rw [hg]; exact Nat.ne_of_gt (blk_lt (g := ag) (o := .cells #[.int .i64 ab, .slice aj ad.length ak, .slice al af.length am, .slice ao ae.length ap] 26 (0, 0)) (zB aa.out)) : an ≠ ag))
           clear av
           clear aJ
           clear aK
           clear aL
           clear ac
           clear aa
           clear HB
           have av := n0_
           have aJ := n1_
           have aK := n2_
           have aL := n3_
           have ac := n4_
           have aa := n5_
           have HB := n6_
           have aC := n7_
           have aM := n8_
           have aI := n9_
           have aF := n10_
           have aG := n11_
           have aA := n12_
           have aH := n13_
           clear n0_ n1_ n2_ n3_ n4_ n5_ n6_ n7_ n8_ n9_ n10_ n11_ n12_ n13_
           clear hb hbox hg
           refine hK.out _ _ ⟨(blk_cell aa.out 0).trans rfl, (blk_cell aa.out 1).trans rfl, (blk_cell aa.out 2).trans rfl, (blk_cell aa.out 3).trans rfl, HS4_, HS5_, HS6_, HS7_, HS8_, HS9_, HS10_, HS11_, HS12_⟩ (fun hHeld => ?_)
           clear hK K
           refine norm_ (a' := ?_) ?_ ?_
           rotate_left
           ·show Act.put _ (some 13) _ = _
            simp only [Act.put, sT, s0, s1, i64_w, i32_w]
            rfl
           exact norm_ (by simp only [putAll, Act.put, sT, s0, s1]) (hCont (v361, v364, v367, an) _ ⟨hHeld, (zV (Kd.V_mono av.out (fun _ hk => ⟨hk.1.1, ⟨hk.1.2, hk.2⟩⟩))), (zV (Kd.V_mono aJ.out (fun _ hk => ⟨hk.1.1, ⟨hk.1.2, hk.2⟩⟩))), (zV (Kd.V_mono aK.out (fun _ hk => ⟨hk.1.1, ⟨hk.1.2, hk.2⟩⟩))), (zV (Kd.V_mono aL.out (fun _ hk => ⟨hk.1.1, ⟨hk.1.2, hk.2⟩⟩))), (zB ac.out), (zB aa.out), (zB aC.out), aM.out, aI.out, aF.out, aG.out, aA.out, aH.out, (by repeat (first | (with_reducible first | exact HB.out | apply pA | apply pN | apply pD | refine pS ?_ au.out | refine pS ?_ ay.out | refine pS ?_ aI.out) | exact HB.out))⟩)
          ·skip
           refine box_step ?hg (N := 13) ?hd (cs := #[.int .i64 0, .slice none 0 0, .slice none 0 0, .slice none 0 0]) (t := 26) ?hr ?_; (case hd => rfl); (case hg => rfl); (case hr => first | (go_simp; done) | (go_simp; rfl))
           intro an hg w144 hbox hb
           have HS4_ := (hb.cell (World.block_lt_of_cell? _ _ (hHeld.2.2.2.2.1))).trans (hHeld.2.2.2.2.1)
           have HS5_ := (hb.cell (World.block_lt_of_cell? _ _ (hHeld.2.2.2.2.2.1))).trans (hHeld.2.2.2.2.2.1)
           have HS6_ := (hb.cell (World.block_lt_of_cell? _ _ (hHeld.2.2.2.2.2.2.1))).trans (hHeld.2.2.2.2.2.2.1)
           have HS7_ := (hb.cell (World.block_lt_of_cell? _ _ (hHeld.2.2.2.2.2.2.2.1))).trans (hHeld.2.2.2.2.2.2.2.1)
           have HS8_ := (hb.cell (World.block_lt_of_cell? _ _ (hHeld.2.2.2.2.2.2.2.2.1))).trans (hHeld.2.2.2.2.2.2.2.2.1)
           have HS9_ := (hb.cell (World.block_lt_of_cell? _ _ (hHeld.2.2.2.2.2.2.2.2.2.1))).trans (hHeld.2.2.2.2.2.2.2.2.2.1)
           have HS10_ := (hb.cell (World.block_lt_of_cell? _ _ (hHeld.2.2.2.2.2.2.2.2.2.2.1))).trans (hHeld.2.2.2.2.2.2.2.2.2.2.1)
           have HS11_ := (hb.cell (World.block_lt_of_cell? _ _ (hHeld.2.2.2.2.2.2.2.2.2.2.2.1))).trans (hHeld.2.2.2.2.2.2.2.2.2.2.2.1)
           have HS12_ := (hb.cell (World.block_lt_of_cell? _ _ (hHeld.2.2.2.2.2.2.2.2.2.2.2.2))).trans (hHeld.2.2.2.2.2.2.2.2.2.2.2.2)
           have n0_ := Aside0.mk (Kd.V_below (Kd.V_elderB (zV av.out) an (Nat.le_of_eq hg.symm)) hb)
           have n1_ := Aside0.mk (blk_below (g := ah) (o := .cells #[.int .i64 ab, .slice aj ad.length ak, .slice al af.length am, .slice ao ae.length ap, .string ar, .bool az, .bool ax, .int .i64 aw] 28 (0, 0)) (zB ac.out) hb)
           have n2_ := Aside0.mk (blk_below (g := ag) (o := .cells #[.int .i64 ab, .slice aj ad.length ak, .slice al af.length am, .slice ao ae.length ap] 26 (0, 0)) (zB aa.out) hb)
           have n3_ := Aside0.mk (below_step (by repeat (first | (with_reducible first | exact HB.out | apply pA | apply pN | apply pD | refine pS ?_ au.out | refine pS ?_ ay.out) | exact HB.out)) hb)
           have n4_ := Aside0.mk (hbox)
           have n5_ := Aside0.mk ((by rw [hg]; exact (below_size (by repeat (first | (with_reducible first | exact HB.out | apply pA | apply pN | apply pD | refine pS ?_ au.out | refine pS ?_ ay.out) | exact HB.out))) : w.heap.size ≤ an))
           have n6_ := Aside0.mk ((by rw [hg]; exact (below_size (by repeat (first | (with_reducible first | exact HB.out | apply pA | apply pN | apply pD | refine pS ?_ au.out | refine pS ?_ ay.out) | exact HB.out))) : w.heap.size ≤ an))
           have n7_ := Aside0.mk ((by rw [hg]; exact Nat.ne_of_lt (blk_lt (g := ah) (o := .cells #[.int .i64 ab, .slice aj ad.length ak, .slice al af.length am, .slice ao ae.length ap, .string ar, .bool az, .bool ax, .int .i64 aw] 28 (0, 0)) (zB ac.out)) : ah ≠ an))
           have n8_ := Aside0.mk ((by rw [hg]; exact Nat.ne_of_gt (blk_lt (g := ah) (o := .cells #[.int .i64 ab, .slice aj ad.length ak, .slice al af.length am, .slice ao ae.length ap, .string ar, .bool az, .bool ax, .int .i64 aw] 28 (0, 0)) (zB ac.out)) : an ≠ ah))
           have n9_ := Aside0.mk ((by rw [hg]; exact Nat.ne_of_lt (blk_lt (g := ag) (o := .cells #[.int .i64 ab, .slice aj ad.length ak, .slice al af.length am, .slice ao ae.length ap] 26 (0, 0)) (zB aa.out)) : ag ≠ an))
           have n10_ := Aside0.mk ((by rw [hg]; exact Nat.ne_of_gt (blk_lt (g := ag) (o := .cells #[.int .i64 ab, .slice aj ad.length ak, .slice al af.length am, .slice ao ae.length ap] 26 (0, 0)) (zB aa.out)) : an ≠ ag))
           clear av
           clear ac
           clear aa
           clear HB
           have av := n0_
           have ac := n1_
           have aa := n2_
           have HB := n3_
           have aC := n4_
           have aM := n5_
           have aI := n6_
           have aF := n7_
           have aG := n8_
           have aA := n9_
           have aH := n10_
           clear n0_ n1_ n2_ n3_ n4_ n5_ n6_ n7_ n8_ n9_ n10_
           clear hb hbox hg
           refine hK.out _ _ ⟨(blk_cell aa.out 0).trans rfl, (blk_cell aa.out 1).trans rfl, (blk_cell aa.out 2).trans rfl, (blk_cell aa.out 3).trans rfl, HS4_, HS5_, HS6_, HS7_, HS8_, HS9_, HS10_, HS11_, HS12_⟩ (fun hHeld => ?_)
           clear hK K
           refine norm_ (a' := ?_) ?_ ?_
           rotate_left
           ·show Act.put _ (some 13) _ = _
            simp only [Act.put, sT, s0, s1, i64_w, i32_w]
            rfl
           refine one_ (i := 4) (N := some 79) #[oI, oI, oI, oI, oI, oO, oO, oO, oI, oO, oO] rfl rfl (one_of HT_.out (by kernel_rfl)) (by decide) (fun K hK => ?_)
           refine goes_ Try.func14 (by kernel_rfl) rfl #[.agg #[.int .i64 ab, .slice aj ad.length ak, .slice al af.length am, .slice ao ae.length ap], .agg #[.int .i64 ((rd_T41 ai 0).f0), .int .i64 ((rd_T41 ai 0).f1), .int .i64 ((rd_T41 ai 0).f2), .int .u32 ((rd_T41 ai 0).f3), .string ((rd_T41 ai 0).f4), .int .u64 ((rd_T41 ai 0).f5), .int .u64 ((rd_T41 ai 0).f6), .int .i64 ((rd_T41 ai 0).f7), .int .i64 ((rd_T41 ai 0).f8)]] (by rfl) rfl rfl (by (try simp only [List.map_toArray, List.map_cons, List.map_nil]); first | done | rfl | (simp only [List.length_drop, List.length_take]; rfl)) ?_
           with_reducible refine (portreeveref04_Apply.calls k ab (fun k_ => k_ < w.heap.size) _ _ ad (fun k_ => k_ < w.heap.size) _ _ af (fun k_ => k_ < w.heap.size) _ _ ae ((rd_T41 ai 0).f0) ((rd_T41 ai 0).f1) ((rd_T41 ai 0).f2) ((rd_T41 ai 0).f3) ((rd_T41 ai 0).f4) ((rd_T41 ai 0).f5) ((rd_T41 ai 0).f6) ((rd_T41 ai 0).f7) ((rd_T41 ai 0).f8) aP aV aY a8 ba _ ?side1 ?side2 ?side3 bl.out).mono ?_
           (case side1 => exact Kd.V_mk HC0_1.out (Kd.F_below (Kd.C_F k76_heap aQ.out) (by repeat (first | (with_reducible first | exact HB.out | apply pA | apply pN | apply pD | refine pS ?_ au.out | refine pS ?_ ay.out | refine pS ?_ aI.out) | exact HB.out))))
           (case side2 => exact Kd.V_mk HC0_2.out (Kd.F_below (Kd.C_F k72_heap aR.out) (by repeat (first | (with_reducible first | exact HB.out | apply pA | apply pN | apply pD | refine pS ?_ au.out | refine pS ?_ ay.out | refine pS ?_ aI.out) | exact HB.out))))
           (case side3 => exact Kd.V_mk HC0_3.out (Kd.F_below (Kd.C_F k64_heap aS.out) (by repeat (first | (with_reducible first | exact HB.out | apply pA | apply pN | apply pD | refine pS ?_ au.out | refine pS ?_ ay.out | refine pS ?_ aI.out) | exact HB.out))))
           rintro e w145 ⟨v361, v364, v367, rfl, ho0, ho1, ho2, hb⟩
           have HS4_ := (hb.cell (World.block_lt_of_cell? _ _ (hHeld.2.2.2.2.1))).trans (hHeld.2.2.2.2.1)
           have HS5_ := (hb.cell (World.block_lt_of_cell? _ _ (hHeld.2.2.2.2.2.1))).trans (hHeld.2.2.2.2.2.1)
           have HS6_ := (hb.cell (World.block_lt_of_cell? _ _ (hHeld.2.2.2.2.2.2.1))).trans (hHeld.2.2.2.2.2.2.1)
           have HS7_ := (hb.cell (World.block_lt_of_cell? _ _ (hHeld.2.2.2.2.2.2.2.1))).trans (hHeld.2.2.2.2.2.2.2.1)
           have HS8_ := (hb.cell (World.block_lt_of_cell? _ _ (hHeld.2.2.2.2.2.2.2.2.1))).trans (hHeld.2.2.2.2.2.2.2.2.1)
           have HS9_ := (hb.cell (World.block_lt_of_cell? _ _ (hHeld.2.2.2.2.2.2.2.2.2.1))).trans (hHeld.2.2.2.2.2.2.2.2.2.1)
           have HS10_ := (hb.cell (World.block_lt_of_cell? _ _ (hHeld.2.2.2.2.2.2.2.2.2.2.1))).trans (hHeld.2.2.2.2.2.2.2.2.2.2.1)
           have HS11_ := (hb.cell (World.block_lt_of_cell? _ _ (hHeld.2.2.2.2.2.2.2.2.2.2.2.1))).trans (hHeld.2.2.2.2.2.2.2.2.2.2.2.1)
           have HS12_ := (hb.cell (World.block_lt_of_cell? _ _ (hHeld.2.2.2.2.2.2.2.2.2.2.2.2))).trans (hHeld.2.2.2.2.2.2.2.2.2.2.2.2)
           refine ⟨_, rfl, ?_⟩
           have n0_ := Aside0.mk (Kd.V_below (zV av.out) hb)
           have n1_ := Aside0.mk (Kd.V_lower (Kd.V_mono (ok' := fun k_ => k_ ≠ ah ∧ k_ ≠ ag ∧ k_ ≠ an) ho0 (fun k_ hk_ => ⟨Or.elim hk_ (fun hs_ => Or.elim hs_ (fun hs_ => fun e_ => Nat.not_le.2 hs_ (by rw [e_]; exact aD.out)) (fun hs_ => Or.elim hs_ (fun hs_ => fun e_ => Nat.not_le.2 hs_ (by rw [e_]; exact aD.out)) (fun hs_ => fun e_ => Nat.not_le.2 hs_ (by rw [e_]; exact aD.out)))) (fun hn_ => (Kd.freshB (g := ah) (o := .cells #[.int .i64 ab, .slice aj ad.length ak, .slice al af.length am, .slice ao ae.length ap, .string ar, .bool az, .bool ax, .int .i64 aw] 28 (0, 0)) (zB ac.out) k_ hn_)), Or.elim hk_ (fun hs_ => Or.elim hs_ (fun hs_ => fun e_ => Nat.not_le.2 hs_ (by rw [e_]; exact aE.out)) (fun hs_ => Or.elim hs_ (fun hs_ => fun e_ => Nat.not_le.2 hs_ (by rw [e_]; exact aE.out)) (fun hs_ => fun e_ => Nat.not_le.2 hs_ (by rw [e_]; exact aE.out)))) (fun hn_ => (Kd.freshB (g := ag) (o := .cells #[.int .i64 ab, .slice aj ad.length ak, .slice al af.length am, .slice ao ae.length ap] 26 (0, 0)) (zB aa.out) k_ hn_)), Or.elim hk_ (fun hs_ => Or.elim hs_ (fun hs_ => fun e_ => Nat.not_le.2 hs_ (by rw [e_]; exact aM.out)) (fun hs_ => Or.elim hs_ (fun hs_ => fun e_ => Nat.not_le.2 hs_ (by rw [e_]; exact aM.out)) (fun hs_ => fun e_ => Nat.not_le.2 hs_ (by rw [e_]; exact aM.out)))) (fun hn_ => (Kd.freshB (g := an) (o := .cells #[.int .i64 0, .slice none 0 0, .slice none 0 0, .slice none 0 0] 26 (0, 0)) (zB aC.out) k_ hn_))⟩)) (below_size (by repeat (first | (with_reducible first | exact HB.out | apply pA | apply pN | apply pD | refine pS ?_ au.out | refine pS ?_ ay.out | refine pS ?_ aI.out) | exact HB.out))))
           have n2_ := Aside0.mk (Kd.V_lower (Kd.V_mono (ok' := fun k_ => k_ ≠ ah ∧ k_ ≠ ag ∧ k_ ≠ an) ho1 (fun k_ hk_ => ⟨Or.elim hk_ (fun hs_ => Or.elim hs_ (fun hs_ => fun e_ => Nat.not_le.2 hs_ (by rw [e_]; exact aD.out)) (fun hs_ => Or.elim hs_ (fun hs_ => fun e_ => Nat.not_le.2 hs_ (by rw [e_]; exact aD.out)) (fun hs_ => fun e_ => Nat.not_le.2 hs_ (by rw [e_]; exact aD.out)))) (fun hn_ => (Kd.freshB (g := ah) (o := .cells #[.int .i64 ab, .slice aj ad.length ak, .slice al af.length am, .slice ao ae.length ap, .string ar, .bool az, .bool ax, .int .i64 aw] 28 (0, 0)) (zB ac.out) k_ hn_)), Or.elim hk_ (fun hs_ => Or.elim hs_ (fun hs_ => fun e_ => Nat.not_le.2 hs_ (by rw [e_]; exact aE.out)) (fun hs_ => Or.elim hs_ (fun hs_ => fun e_ => Nat.not_le.2 hs_ (by rw [e_]; exact aE.out)) (fun hs_ => fun e_ => Nat.not_le.2 hs_ (by rw [e_]; exact aE.out)))) (fun hn_ => (Kd.freshB (g := ag) (o := .cells #[.int .i64 ab, .slice aj ad.length ak, .slice al af.length am, .slice ao ae.length ap] 26 (0, 0)) (zB aa.out) k_ hn_)), Or.elim hk_ (fun hs_ => Or.elim hs_ (fun hs_ => fun e_ => Nat.not_le.2 hs_ (by rw [e_]; exact aM.out)) (fun hs_ => Or.elim hs_ (fun hs_ => fun e_ => Nat.not_le.2 hs_ (by rw [e_]; exact aM.out)) (fun hs_ => fun e_ => Nat.not_le.2 hs_ (by rw [e_]; exact aM.out)))) (fun hn_ => (Kd.freshB (g := an) (o := .cells #[.int .i64 0, .slice none 0 0, .slice none 0 0, .slice none 0 0] 26 (0, 0)) (zB aC.out) k_ hn_))⟩)) (below_size (by repeat (first | (with_reducible first | exact HB.out | apply pA | apply pN | apply pD | refine pS ?_ au.out | refine pS ?_ ay.out | refine pS ?_ aI.out) | exact HB.out))))
           have n3_ := Aside0.mk (Kd.V_lower (Kd.V_mono (ok' := fun k_ => k_ ≠ ah ∧ k_ ≠ ag ∧ k_ ≠ an) ho2 (fun k_ hk_ => ⟨Or.elim hk_ (fun hs_ => Or.elim hs_ (fun hs_ => fun e_ => Nat.not_le.2 hs_ (by rw [e_]; exact aD.out)) (fun hs_ => Or.elim hs_ (fun hs_ => fun e_ => Nat.not_le.2 hs_ (by rw [e_]; exact aD.out)) (fun hs_ => fun e_ => Nat.not_le.2 hs_ (by rw [e_]; exact aD.out)))) (fun hn_ => (Kd.freshB (g := ah) (o := .cells #[.int .i64 ab, .slice aj ad.length ak, .slice al af.length am, .slice ao ae.length ap, .string ar, .bool az, .bool ax, .int .i64 aw] 28 (0, 0)) (zB ac.out) k_ hn_)), Or.elim hk_ (fun hs_ => Or.elim hs_ (fun hs_ => fun e_ => Nat.not_le.2 hs_ (by rw [e_]; exact aE.out)) (fun hs_ => Or.elim hs_ (fun hs_ => fun e_ => Nat.not_le.2 hs_ (by rw [e_]; exact aE.out)) (fun hs_ => fun e_ => Nat.not_le.2 hs_ (by rw [e_]; exact aE.out)))) (fun hn_ => (Kd.freshB (g := ag) (o := .cells #[.int .i64 ab, .slice aj ad.length ak, .slice al af.length am, .slice ao ae.length ap] 26 (0, 0)) (zB aa.out) k_ hn_)), Or.elim hk_ (fun hs_ => Or.elim hs_ (fun hs_ => fun e_ => Nat.not_le.2 hs_ (by rw [e_]; exact aM.out)) (fun hs_ => Or.elim hs_ (fun hs_ => fun e_ => Nat.not_le.2 hs_ (by rw [e_]; exact aM.out)) (fun hs_ => fun e_ => Nat.not_le.2 hs_ (by rw [e_]; exact aM.out)))) (fun hn_ => (Kd.freshB (g := an) (o := .cells #[.int .i64 0, .slice none 0 0, .slice none 0 0, .slice none 0 0] 26 (0, 0)) (zB aC.out) k_ hn_))⟩)) (below_size (by repeat (first | (with_reducible first | exact HB.out | apply pA | apply pN | apply pD | refine pS ?_ au.out | refine pS ?_ ay.out | refine pS ?_ aI.out) | exact HB.out))))
           have n4_ := Aside0.mk (blk_below (g := ah) (o := .cells #[.int .i64 ab, .slice aj ad.length ak, .slice al af.length am, .slice ao ae.length ap, .string ar, .bool az, .bool ax, .int .i64 aw] 28 (0, 0)) (zB ac.out) hb)
           have n5_ := Aside0.mk (blk_below (g := ag) (o := .cells #[.int .i64 ab, .slice aj ad.length ak, .slice al af.length am, .slice ao ae.length ap] 26 (0, 0)) (zB aa.out) hb)
           have n6_ := Aside0.mk (blk_below (g := an) (o := .cells #[.int .i64 0, .slice none 0 0, .slice none 0 0, .slice none 0 0] 26 (0, 0)) (zB aC.out) hb)
           have n7_ := Aside0.mk (below_step (by repeat (first | (with_reducible first | exact HB.out | apply pA | apply pN | apply pD | refine pS ?_ au.out | refine pS ?_ ay.out | refine pS ?_ aI.out) | exact HB.out)) hb)
           clear av
           clear ac
           clear aa
           clear aC
           clear HB
           have av := n0_
           have aJ := n1_
           have aK := n2_
           have aL := n3_
           have ac := n4_
           have aa := n5_
           have aC := n6_
           have HB := n7_
           clear n0_ n1_ n2_ n3_ n4_ n5_ n6_ n7_
           (try clear hb)
           (try clear hb2)
           (try clear hk)
           (try clear hi)
           (try clear ho0)
           (try clear ho1)
           (try clear ho2)
           refine hK.out _ _ ⟨(blk_cell aa.out 0).trans rfl, (blk_cell aa.out 1).trans rfl, (blk_cell aa.out 2).trans rfl, (blk_cell aa.out 3).trans rfl, HS4_, HS5_, HS6_, HS7_, HS8_, HS9_, HS10_, HS11_, HS12_⟩ (fun hHeld => ?_)
           clear hK K
           refine norm_ (a' := ?_) ?_ ?_
           rotate_left
           ·show Act.put _ (some 79) _ = _
            simp only [Act.put, sT, s0, s1, i64_w, i32_w]
            rfl
           refine pure_ (i := 5) (N := some 74) (v := ?_) (a' := ?_) #[oI, oI, oI, oI, oI, oI, oO, oO, oI, oO, oO] rfl rfl (any_of HT_.out (by kernel_rfl)) (fun _ _ _ h => h) (Or.inl ⟨by rfl, ?_⟩) ?_ ?_
           rotate_left
           ·intro w'
            go_simp
            with_reducible rfl
           rotate_left
           ·simp only [Act.put, sT, s0, s1, i64_w, i32_w]
            rfl
           refine pure_ (i := 6) (N := some 80) (v := ?_) (a' := ?_) #[oI, oI, oI, oI, oI, oI, oI, oO, oI, oO, oO] rfl rfl (any_of HT_.out (by kernel_rfl)) (fun _ _ _ h => h) (Or.inl ⟨by rfl, ?_⟩) ?_ ?_
           rotate_left
           ·intro w'
            go_simp
            with_reducible rfl
           rotate_left
           ·simp only [Act.put, sT, s0, s1, i64_w, i32_w]
            rfl
           refine pure_ (i := 7) (N := some 81) (v := ?_) (a' := ?_) #[oI, oI, oI, oI, oI, oI, oI, oI, oI, oO, oO] rfl rfl (any_of HT_.out (by kernel_rfl)) (fun _ _ _ h => h) (Or.inl ⟨by rfl, ?_⟩) ?_ ?_
           rotate_left
           ·intro w'
            go_simp
            with_reducible rfl
           rotate_left
           ·simp only [Act.put, sT, s0, s1, i64_w, i32_w]
            rfl
           exact norm_ (by simp only [putAll, Act.put, sT, s0, s1]) (hCont (v361, v364, v367, an) _ ⟨hHeld, (zV (Kd.V_mono av.out (fun _ hk => ⟨hk.1.1, ⟨hk.1.2, hk.2⟩⟩))), (zV aJ.out), (zV aK.out), (zV aL.out), (zB ac.out), (zB aa.out), (zB aC.out), aM.out, aI.out, aF.out, aG.out, aA.out, aH.out, (by repeat (first | (with_reducible first | exact HB.out | apply pA | apply pN | apply pD | refine pS ?_ au.out | refine pS ?_ ay.out | refine pS ?_ aI.out) | exact HB.out))⟩)
         rintro ⟨v361, v364, v367, an⟩ w146 ⟨hS_, h0_, h1_, h2_, h3_, h4_, h5_, h6_, h7_, h8_, h9_, h10_, h11_, h12_, h13_⟩
         have n0_ : Aside0 (Kd.V k41 41 w146 w.heap.size (fun k_ => k_ ≠ ah ∧ k_ ≠ ag ∧ k_ ≠ an) (.slice (some aq) ai.length bD) ai) := ⟨h0_⟩
         have n1_ : Aside0 (Kd.V k76 76 w146 w.heap.size (fun k_ => k_ ≠ ah ∧ k_ ≠ ag ∧ k_ ≠ an) v361 aV) := ⟨h1_⟩
         have n2_ : Aside0 (Kd.V k72 72 w146 w.heap.size (fun k_ => k_ ≠ ah ∧ k_ ≠ ag ∧ k_ ≠ an) v364 aY) := ⟨h2_⟩
         have n3_ : Aside0 (Kd.V k64 64 w146 w.heap.size (fun k_ => k_ ≠ ah ∧ k_ ≠ ag ∧ k_ ≠ an) v367 a8) := ⟨h3_⟩
         have n4_ : Aside0 (w146.heap[ah]? = some (.cells #[.int .i64 ab, .slice aj ad.length ak, .slice al af.length am, .slice ao ae.length ap, .string ar, .bool az, .bool ax, .int .i64 aw] 28 (0, 0))) := ⟨h4_⟩
         have n5_ : Aside0 (w146.heap[ag]? = some (.cells #[.int .i64 ab, .slice aj ad.length ak, .slice al af.length am, .slice ao ae.length ap] 26 (0, 0))) := ⟨h5_⟩
         have n6_ : Aside0 (w146.heap[an]? = some (.cells #[.int .i64 0, .slice none 0 0, .slice none 0 0, .slice none 0 0] 26 (0, 0))) := ⟨h6_⟩
         have n7_ : Aside0 (w.heap.size ≤ an) := ⟨h7_⟩
         have n8_ : Aside0 (w.heap.size ≤ an) := ⟨h8_⟩
         have n9_ : Aside0 (ah ≠ an) := ⟨h9_⟩
         have n10_ : Aside0 (an ≠ ah) := ⟨h10_⟩
         have n11_ : Aside0 (ag ≠ an) := ⟨h11_⟩
         have n12_ : Aside0 (an ≠ ag) := ⟨h12_⟩
         have n13_ : Aside0 (Below w.heap.size w w146) := ⟨h13_⟩
         clear av
         clear ac
         clear aa
         clear HB
         clear h0_ h1_ h2_ h3_ h4_ h5_ h6_ h7_ h8_ h9_ h10_ h11_ h12_ h13_
         have av := n0_
         have aJ := n1_
         have aK := n2_
         have aL := n3_
         have ac := n4_
         have aa := n5_
         have aC := n6_
         have aM := n7_
         have aI := n8_
         have aF := n9_
         have aG := n10_
         have aA := n11_
         have aH := n12_
         have HB := n13_
         clear n0_ n1_ n2_ n3_ n4_ n5_ n6_ n7_ n8_ n9_ n10_ n11_ n12_ n13_
         have hHeld : w146.cell? ⟨ag, 0, none⟩ = some (.int .i64 ab) ∧ w146.cell? ⟨ag, 1, none⟩ = some (.slice aj ad.length ak) ∧ w146.cell? ⟨ag, 2, none⟩ = some (.slice al af.length am) ∧ w146.cell? ⟨ag, 3, none⟩ = some (.slice ao ae.length ap) ∧ w146.cell? aq = some (.int .i64 ((rd_T41 ai 0).f0)) ∧ w146.cell? ⟨aq.block, aq.off + 1, none⟩ = some (.int .i64 ((rd_T41 ai 0).f1)) ∧ w146.cell? ⟨aq.block, aq.off + 2, none⟩ = some (.int .i64 ((rd_T41 ai 0).f2)) ∧ w146.cell? ⟨aq.block, aq.off + 3, none⟩ = some (.int .u32 ((rd_T41 ai 0).f3)) ∧ w146.cell? ⟨aq.block, aq.off + 4, none⟩ = some (.string ((rd_T41 ai 0).f4)) ∧ w146.cell? ⟨aq.block, aq.off + 5, none⟩ = some (.int .u64 ((rd_T41 ai 0).f5)) ∧ w146.cell? ⟨aq.block, aq.off + 6, none⟩ = some (.int .u64 ((rd_T41 ai 0).f6)) ∧ w146.cell? ⟨aq.block, aq.off + 7, none⟩ = some (.int .i64 ((rd_T41 ai 0).f7)) ∧ w146.cell? ⟨aq.block, aq.off + 8, none⟩ = some (.int .i64 ((rd_T41 ai 0).f8)) := hS_
         obtain ⟨bj, be, bE⟩ := Kd.V_slice aJ.out
         (first | subst bE | (injection bE with f1_ f2_ f3_; have f4_ := f1_.symm; have f5_ := f3_.symm; clear f1_ f2_ f3_; subst f4_; subst f5_))
         obtain ⟨br, bk, bF⟩ := Kd.V_slice aK.out
         (first | subst bF | (injection bF with f1_ f2_ f3_; have f4_ := f1_.symm; have f5_ := f3_.symm; clear f1_ f2_ f3_; subst f4_; subst f5_))
         obtain ⟨bG, bs, bH⟩ := Kd.V_slice aL.out
         (first | subst bH | (injection bH with f1_ f2_ f3_; have f4_ := f1_.symm; have f5_ := f3_.symm; clear f1_ f2_ f3_; subst f4_; subst f5_))
         refine norm_ (a' := ?_) ?_ ?_
         rotate_left
         ·simp only [putAll, Act.put, sT, s0, s1]
          rfl
         refine one_ (i := 9) (N := none) #[oI, oI, oI, oI, oI, oI, oI, oI, oI, oI, oO] rfl rfl (one_of HT_.out (by kernel_rfl)) (by decide) (fun K hK => ?_)
         have hs147 : w146.cell? ⟨an, 0, none⟩ = some (.int .i64 0) := (blk_cell aC.out 0).trans rfl
         have hfs147 := blk_frozen aC.out 0
         have hns147_0 := aF.out
         have hns147_1 := aA.out
         have hms147_0 := aG.out
         have hms147_1 := aH.out
         have hs149 : w146.cell? ⟨an, 1, none⟩ = some (.slice none 0 0) := (blk_cell aC.out 1).trans rfl
         have hfs149 := blk_frozen aC.out 1
         have hns149_0 := aF.out
         have hns149_1 := aA.out
         have hms149_0 := aG.out
         have hms149_1 := aH.out
         have hs151 : w146.cell? ⟨an, 2, none⟩ = some (.slice none 0 0) := (blk_cell aC.out 2).trans rfl
         have hfs151 := blk_frozen aC.out 2
         have hns151_0 := aF.out
         have hns151_1 := aA.out
         have hms151_0 := aG.out
         have hms151_1 := aH.out
         have hs153 : w146.cell? ⟨an, 3, none⟩ = some (.slice none 0 0) := (blk_cell aC.out 3).trans rfl
         have hfs153 := blk_frozen aC.out 3
         have hns153_0 := aF.out
         have hns153_1 := aA.out
         have hms153_0 := aG.out
         have hms153_1 := aH.out
         refine skip_ (w1 := ?_) (by rfl) rfl ?_ ?_
         rotate_left
         ·go_simp
          rfl
         refine hK.out _ _ ⟨(fC aA.out hHeld.1), (fC aA.out hHeld.2.1), (fC aA.out hHeld.2.2.1), (fC aA.out hHeld.2.2.2.1), (fC (g1 := an) (by have z_ := Kd.own_blk (Kd.V_away av.out (fun _ hk => hk.2.2)); first | exact z_ | (rw [add_block]; exact z_) | (show (Addr.add _ _).block ≠ _; rw [add_block]; exact z_)) hHeld.2.2.2.2.1), (fC (g1 := an) (by have z_ := Kd.own_blk (Kd.V_away av.out (fun _ hk => hk.2.2)); first | exact z_ | (rw [add_block]; exact z_) | (show (Addr.add _ _).block ≠ _; rw [add_block]; exact z_)) hHeld.2.2.2.2.2.1), (fC (g1 := an) (by have z_ := Kd.own_blk (Kd.V_away av.out (fun _ hk => hk.2.2)); first | exact z_ | (rw [add_block]; exact z_) | (show (Addr.add _ _).block ≠ _; rw [add_block]; exact z_)) hHeld.2.2.2.2.2.2.1), (fC (g1 := an) (by have z_ := Kd.own_blk (Kd.V_away av.out (fun _ hk => hk.2.2)); first | exact z_ | (rw [add_block]; exact z_) | (show (Addr.add _ _).block ≠ _; rw [add_block]; exact z_)) hHeld.2.2.2.2.2.2.2.1), (fC (g1 := an) (by have z_ := Kd.own_blk (Kd.V_away av.out (fun _ hk => hk.2.2)); first | exact z_ | (rw [add_block]; exact z_) | (show (Addr.add _ _).block ≠ _; rw [add_block]; exact z_)) hHeld.2.2.2.2.2.2.2.2.1), (fC (g1 := an) (by have z_ := Kd.own_blk (Kd.V_away av.out (fun _ hk => hk.2.2)); first | exact z_ | (rw [add_block]; exact z_) | (show (Addr.add _ _).block ≠ _; rw [add_block]; exact z_)) hHeld.2.2.2.2.2.2.2.2.2.1), (fC (g1 := an) (by have z_ := Kd.own_blk (Kd.V_away av.out (fun _ hk => hk.2.2)); first | exact z_ | (rw [add_block]; exact z_) | (show (Addr.add _ _).block ≠ _; rw [add_block]; exact z_)) hHeld.2.2.2.2.2.2.2.2.2.2.1), (fC (g1 := an) (by have z_ := Kd.own_blk (Kd.V_away av.out (fun _ hk => hk.2.2)); first | exact z_ | (rw [add_block]; exact z_) | (show (Addr.add _ _).block ≠ _; rw [add_block]; exact z_)) hHeld.2.2.2.2.2.2.2.2.2.2.2.1), (fC (g1 := an) (by have z_ := Kd.own_blk (Kd.V_away av.out (fun _ hk => hk.2.2)); first | exact z_ | (rw [add_block]; exact z_) | (show (Addr.add _ _).block ≠ _; rw [add_block]; exact z_)) hHeld.2.2.2.2.2.2.2.2.2.2.2.2)⟩ (fun hHeld => ?_)
         clear hK K
         refine pure_ (i := 10) (N := some 14) (v := ?_) (a' := ?_) #[oI, oI, oI, oI, oI, oI, oI, oI, oI, oI, oI] rfl rfl (any_of HT_.out (by kernel_rfl)) (fun _ _ _ h => h) (Or.inl ⟨by rfl, ?_⟩) ?_ ?_
         rotate_left
         ·intro w'
          go_simp
          with_reducible rfl
         rotate_left
         ·simp only [Act.put, sT, s0, s1, i64_w, i32_w]
          rfl
         refine done_ (done_of HT_.out (by kernel_rfl)) ?_
         have kG := aG.out
         have kH := aF.out
         have kI := aH.out
         have kJ := aA.out
         obtain ⟨ek, el, em, en, eo, ep, eq, er⟩ := bk4 aC.out
         try go_wp2_with (first | ((with_reducible refine gate_callee (f := 12) rfl ?_); refine goesL_ (some 85) rfl rfl Try.func12 (by kernel_rfl) rfl #[.agg #[.int .i64 aP, .slice bj aV.length be, .slice br aY.length bk, .slice bG a8.length bs], .string ar] rfl (by (try simp only [List.map_toArray, List.map_cons, List.map_nil]); first | done | rfl | (simp only [List.length_drop, List.length_take]; rfl)) ?_; (with_reducible refine (gate_Failed.calls aP _ _ aV _ _ aY _ _ a8 ar bc bt _ ?side1 ?side2 ?side3 ?side4 ?side5 ?side6 bw.out).mono ?_); (case side1 => refine (Kd.V_reads' (e := 76) (base := w.heap.size) (ok := fun k_ => (k_ ≠ ah ∧ (k_ ≠ ag ∧ k_ ≠ an))) (n := aV.length) (c := be) ?_).2.2; exact (fV aJ.out (fun k_ hk => (⟨hk, hk.2.2⟩ : _ ∧ k_ ≠ an)) (fun _ h_ => h_.1))); (case side2 => exact (Kd.V_reads' aJ.out).2.1); (case side3 => refine (Kd.V_reads' (e := 72) (base := w.heap.size) (ok := fun k_ => (k_ ≠ ah ∧ (k_ ≠ ag ∧ k_ ≠ an))) (n := aY.length) (c := bk) ?_).2.2; exact (fV aK.out (fun k_ hk => (⟨hk, hk.2.2⟩ : _ ∧ k_ ≠ an)) (fun _ h_ => h_.1))); (case side4 => exact (Kd.V_reads' aK.out).2.1); (case side5 => refine (Kd.V_reads' (e := 64) (base := w.heap.size) (ok := fun k_ => (k_ ≠ ah ∧ (k_ ≠ ag ∧ k_ ≠ an))) (n := a8.length) (c := bs) ?_).2.2; exact (fV aL.out (fun k_ hk => (⟨hk, hk.2.2⟩ : _ ∧ k_ ≠ an)) (fun _ h_ => h_.1))); (case side6 => exact (Kd.V_reads' aL.out).2.1); rintro e w157 ⟨rfl, hb⟩; refine ⟨_, rfl, ?_⟩; have n0_ := Aside0.mk (Kd.V_below (fV av.out (fun k_ hk => (⟨hk, hk.2.2⟩ : _ ∧ k_ ≠ an)) (fun _ h_ => h_.1)) hb); have n1_ := Aside0.mk (Kd.V_below (fV aJ.out (fun k_ hk => (⟨hk, hk.2.2⟩ : _ ∧ k_ ≠ an)) (fun _ h_ => h_.1)) hb); have n2_ := Aside0.mk (Kd.V_below (fV aK.out (fun k_ hk => (⟨hk, hk.2.2⟩ : _ ∧ k_ ≠ an)) (fun _ h_ => h_.1)) hb); have n3_ := Aside0.mk (Kd.V_below (fV aL.out (fun k_ hk => (⟨hk, hk.2.2⟩ : _ ∧ k_ ≠ an)) (fun _ h_ => h_.1)) hb); have n4_ := Aside0.mk (blk_below (g := ah) (o := .cells #[.int .i64 ab, .slice aj ad.length ak, .slice al af.length am, .slice ao ae.length ap, .string ar, .bool az, .bool ax, .int .i64 aw] 28 (0, 0)) (fB aF.out ac.out) hb); have n5_ := Aside0.mk (blk_below (g := ag) (o := .cells #[.int .i64 ab, .slice aj ad.length ak, .slice al af.length am, .slice ao ae.length ap] 26 (0, 0)) (fB aA.out aa.out) hb); have n6_ := Aside0.mk (blk_below (g := an) (o := .cells #[.int .i64 aP, .slice bj aV.length be, .slice br aY.length bk, .slice bG a8.length bs] 26 (0, 0)) (by (with_reducible repeat (first | refine qN ?_ _ | refine qD ?_ | refine qA ?_ _)); refine blk_put (cs := #[.int .i64 aP, .slice bj aV.length be, .slice br aY.length bk, .slice none 0 0]) ?_ 3 _ rfl; (with_reducible repeat (first | refine qN ?_ _ | refine qD ?_ | refine qA ?_ _)); refine blk_put (cs := #[.int .i64 aP, .slice bj aV.length be, .slice none 0 0, .slice none 0 0]) ?_ 2 _ rfl; (with_reducible repeat (first | refine qN ?_ _ | refine qD ?_ | refine qA ?_ _)); refine blk_put (cs := #[.int .i64 aP, .slice none 0 0, .slice none 0 0, .slice none 0 0]) ?_ 1 _ rfl; (with_reducible repeat (first | refine qN ?_ _ | refine qD ?_ | refine qA ?_ _)); refine blk_put (cs := #[.int .i64 0, .slice none 0 0, .slice none 0 0, .slice none 0 0]) ?_ 0 _ rfl; (with_reducible repeat (first | refine qN ?_ _ | refine qD ?_ | refine qA ?_ _)); exact aC.out) hb); have n7_ := Aside0.mk (below_step (by repeat (first | (with_reducible first | exact HB.out | apply pA | apply pN | apply pD | refine pS ?_ au.out | refine pS ?_ ay.out | refine pS ?_ aI.out) | exact HB.out)) hb); clear av; clear aJ; clear aK; clear aL; clear ac; clear aa; clear aC; clear HB; have av := n0_; have aJ := n1_; have aK := n2_; have aL := n3_; have ac := n4_; have aa := n5_; have aC := n6_; have HB := n7_; clear n0_ n1_ n2_ n3_ n4_ n5_ n6_ n7_; (try clear hb); (try clear hb2); (try clear hk); (try clear hi); obtain ⟨es, et, eu, ev, ew, ex, ey, ez⟩ := bk4 aa.out))
         go_ret
         exact ⟨by first | rfl | (simp [errW_none, errW_some] <;> rfl) | (simp [*, errW_none, errW_some] <;> rfl), by repeat (first | (with_reducible first | exact HB.out | apply pA | apply pN | apply pD | refine pS ?_ au.out | refine pS ?_ ay.out | refine pS ?_ aI.out) | exact HB.out)⟩
        ·rw [if_neg c128] at H
         have bS : (aT == 0) = false := beq_eq_false_iff_ne.mpr c128
         have bT : (aT != 0) = true := bne_iff_ne.mpr c128
         exact absurd ((Option.some.inj H).trans hlaw_.out) (by decide)
      ·rw [if_neg c126] at H
       have bQ : ((ai.length : Int) == 1) = false := beq_eq_false_iff_ne.mpr c126
       have bR : ((ai.length : Int) != 1) = true := bne_iff_ne.mpr c126
       exact absurd ((Option.some.inj H).trans hlaw_.out) (by decide)
     ·replace c125 := Bool.eq_false_iff.mpr c125
      subst c125
      have H1 : (some false) = some r := by rw [if_neg (show ¬ (false = true) by decide)] at H; exact H
      clear H
      have H := H1
      clear H1
      exact absurd ((Option.some.inj H).trans hlaw_.out) (by decide)
   ·rw [if_neg c57] at H
    exact absurd H (by simp)
 ·replace c4 := Bool.eq_false_iff.mpr c4
  subst c4
  have H1 : (some aU) = some r := by rw [if_neg (show ¬ (false = true) by decide)] at H; exact H
  clear H
  have H := H1
  clear H1
  clear hlaw_
  obtain rfl := Option.some.inj H
  go_enter Try.func3, Try.ntmps3
  go_wp2_with (first | ((with_reducible refine gate_dst (N := 1) rfl ?_); (try (refine gate_guard (by rfl) ?_; dsimp only)); refine box_event ?hg (N := 1) ?hd (cs := #[.int .i64 ab, .slice aj ad.length ak, .slice al af.length am, .slice ao ae.length ap, .string ar, .bool az, .bool ax, .int .i64 aw]) (t := 28) ?hr ?_; (case hd => rfl); (case hg => rfl); (case hr => first | (go_simp; done) | (go_simp; rfl)); intro ah hg w159 hbox hb; have n0_ := Aside0.mk (below_step (zH HB.out) hb); have n1_ := Aside0.mk (hbox); have n2_ := Aside0.mk ((by rw [hg]; exact (below_size (zH HB.out)) : w.heap.size ≤ ah)); have n3_ := Aside0.mk ((by rw [hg]; exact (below_size (zH HB.out)) : w.heap.size ≤ ah)); clear HB; have HB := n0_; have ac := n1_; have aD := n2_; have au := n3_; clear n0_ n1_ n2_ n3_; clear hb hbox hg; obtain ⟨eA, eB, eC, eD, eE, eF, eG, eH, eI, eJ, eK, eL, eM, eN, eO, eP⟩ := bk8 ac.out) | ((with_reducible refine gate_dst (N := 3) rfl ?_); (try (refine gate_guard (by rfl) ?_; dsimp only)); refine box_event ?hg (N := 3) ?hd (cs := #[.int .i64 0, .slice none 0 0, .slice none 0 0, .slice none 0 0]) (t := 26) ?hr ?_; (case hd => rfl); (case hg => rfl); (case hr => first | (go_simp; done) | (go_simp; rfl)); intro ag hg w161 hbox hb; have n0_ := Aside0.mk (blk_below (g := ah) (o := .cells #[.int .i64 ab, .slice aj ad.length ak, .slice al af.length am, .slice ao ae.length ap, .string ar, .bool az, .bool ax, .int .i64 aw] 28 (0, 0)) (zB ac.out) hb); have n1_ := Aside0.mk (below_step (by repeat (first | (with_reducible first | exact HB.out | apply pA | apply pN | apply pD | refine pS ?_ au.out) | exact HB.out)) hb); have n2_ := Aside0.mk (hbox); have n3_ := Aside0.mk ((by rw [hg]; exact (below_size (by repeat (first | (with_reducible first | exact HB.out | apply pA | apply pN | apply pD | refine pS ?_ au.out) | exact HB.out))) : w.heap.size ≤ ag)); have n4_ := Aside0.mk ((by rw [hg]; exact (below_size (by repeat (first | (with_reducible first | exact HB.out | apply pA | apply pN | apply pD | refine pS ?_ au.out) | exact HB.out))) : w.heap.size ≤ ag)); have n5_ := Aside0.mk ((by rw [hg]; exact Nat.ne_of_lt (blk_lt (g := ah) (o := .cells #[.int .i64 ab, .slice aj ad.length ak, .slice al af.length am, .slice ao ae.length ap, .string ar, .bool az, .bool ax, .int .i64 aw] 28 (0, 0)) (zB ac.out)) : ah ≠ ag)); have n6_ := Aside0.mk ((by rw [hg]; exact Nat.ne_of_gt (blk_lt (g := ah) (o := .cells #[.int .i64 ab, .slice aj ad.length ak, .slice al af.length am, .slice ao ae.length ap, .string ar, .bool az, .bool ax, .int .i64 aw] 28 (0, 0)) (zB ac.out)) : ag ≠ ah)); clear ac; clear HB; have ac := n0_; have HB := n1_; have aa := n2_; have aE := n3_; have ay := n4_; have aN := n5_; have aW := n6_; clear n0_ n1_ n2_ n3_ n4_ n5_ n6_; clear hb hbox hg; have kK := aW.out; have kL := aN.out; obtain ⟨eQ, eR, eS, eT, eU, eV, eW, eX⟩ := bk4 aa.out; obtain ⟨eY, eZ, e0, e1, e2, e3, e4, e5, e6, e7, e8, e9, fa, fb, fc, fd⟩ := bk8 ac.out) | ((with_reducible refine gate_callee (f := 9) rfl ?_); refine goesL_ (some 27) rfl rfl Try.func9 (by kernel_rfl) rfl #[] rfl (by (try simp only [List.map_toArray, List.map_cons, List.map_nil]); first | done | rfl | (simp only [List.length_drop, List.length_take]; rfl)) ?_; (with_reducible refine (portreevelaw16_shown.calls k  aU _ A2.out).mono ?_); rintro e w165 ⟨rfl, hb⟩; refine ⟨_, rfl, ?_⟩; have n0_ := Aside0.mk (blk_below (g := ah) (o := .cells #[.int .i64 ab, .slice aj ad.length ak, .slice al af.length am, .slice ao ae.length ap, .string ar, .bool az, .bool ax, .int .i64 aw] 28 (0, 0)) (fB aN.out ac.out) hb); have n1_ := Aside0.mk (blk_below (g := ag) (o := .cells #[.int .i64 ab, .slice aj ad.length ak, .slice al af.length am, .slice ao ae.length ap] 26 (0, 0)) (by (with_reducible repeat (first | refine qN ?_ _ | refine qD ?_ | refine qA ?_ _)); refine blk_put (cs := #[.int .i64 ab, .slice aj ad.length ak, .slice al af.length am, .slice none 0 0]) ?_ 3 _ rfl; (with_reducible repeat (first | refine qN ?_ _ | refine qD ?_ | refine qA ?_ _)); refine blk_put (cs := #[.int .i64 ab, .slice aj ad.length ak, .slice none 0 0, .slice none 0 0]) ?_ 2 _ rfl; (with_reducible repeat (first | refine qN ?_ _ | refine qD ?_ | refine qA ?_ _)); refine blk_put (cs := #[.int .i64 ab, .slice none 0 0, .slice none 0 0, .slice none 0 0]) ?_ 1 _ rfl; (with_reducible repeat (first | refine qN ?_ _ | refine qD ?_ | refine qA ?_ _)); refine blk_put (cs := #[.int .i64 0, .slice none 0 0, .slice none 0 0, .slice none 0 0]) ?_ 0 _ rfl; (with_reducible repeat (first | refine qN ?_ _ | refine qD ?_ | refine qA ?_ _)); exact aa.out) hb); have n2_ := Aside0.mk (below_step (by repeat (first | (with_reducible first | exact HB.out | apply pA | apply pN | apply pD | refine pS ?_ au.out | refine pS ?_ ay.out) | exact HB.out)) hb); clear ac; clear aa; clear HB; have ac := n0_; have aa := n1_; have HB := n2_; clear n0_ n1_ n2_; (try clear hb); (try clear hb2); (try clear hk); (try clear hi); obtain ⟨fe, ff, fg, fh, fi, fj, fk, fl⟩ := bk4 aa.out) | ((with_reducible refine gate_callee (f := 10) rfl ?_); refine goesL_ (some 31) rfl rfl Try.func10 (by kernel_rfl) rfl #[.agg #[.int .i64 ab, .slice aj ad.length ak, .slice al af.length am, .slice ao ae.length ap], .string ar, .int .i64 aw] rfl (by (try simp only [List.map_toArray, List.map_cons, List.map_nil]); first | done | rfl | (simp only [List.length_drop, List.length_take]; rfl)) ?_; (with_reducible refine (portreevelaw16_may.calls k ab _ _ ad _ _ af _ _ ae ar aw false _ ?side1 ?side2 ?side3 ?side4 ?side5 ?side6 A3.out).mono ?_); (case side1 => repeat (first | exact (Kd.C_below aQ.out HB.out) | (with_reducible refine Kd.C_alloc ?_ _) | (with_reducible refine Kd.C_drewN ?_ _) | (with_reducible refine Kd.C_drew ?_))); (case side2 => exact HC0_1.out); (case side3 => repeat (first | exact (Kd.C_below aR.out HB.out) | (with_reducible refine Kd.C_alloc ?_ _) | (with_reducible refine Kd.C_drewN ?_ _) | (with_reducible refine Kd.C_drew ?_))); (case side4 => exact HC0_2.out); (case side5 => repeat (first | exact (Kd.C_below aS.out HB.out) | (with_reducible refine Kd.C_alloc ?_ _) | (with_reducible refine Kd.C_drewN ?_ _) | (with_reducible refine Kd.C_drew ?_))); (case side6 => exact HC0_3.out); rintro e w167 ⟨rfl, hb⟩; refine ⟨_, rfl, ?_⟩; have n0_ := Aside0.mk (blk_below (g := ah) (o := .cells #[.int .i64 ab, .slice aj ad.length ak, .slice al af.length am, .slice ao ae.length ap, .string ar, .bool az, .bool ax, .int .i64 aw] 28 (0, 0)) (zB ac.out) hb); have n1_ := Aside0.mk (blk_below (g := ag) (o := .cells #[.int .i64 ab, .slice aj ad.length ak, .slice al af.length am, .slice ao ae.length ap] 26 (0, 0)) (zB aa.out) hb); have n2_ := Aside0.mk (below_step (by repeat (first | (with_reducible first | exact HB.out | apply pA | apply pN | apply pD | refine pS ?_ au.out | refine pS ?_ ay.out) | exact HB.out)) hb); clear ac; clear aa; clear HB; have ac := n0_; have aa := n1_; have HB := n2_; clear n0_ n1_ n2_; (try clear hb); (try clear hb2); (try clear hk); (try clear hi)))
  go_ret
  exact ⟨by first | rfl | (simp [errW_none, errW_some] <;> rfl) | (simp [*, errW_none, errW_some] <;> rfl), by repeat (first | (with_reducible first | exact HB.out | apply pA | apply pN | apply pD | refine pS ?_ au.out | refine pS ?_ ay.out) | exact HB.out)⟩

end Go.Proofs.Ytocjadhpaecpaaa.Q

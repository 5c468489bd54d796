-- written by this session's own program (wip/tools/myprint.py), over the kit's print
import Derived.Test.YtlimlbhhbjaljaaQx0
import Derived.Test.YtlimlbhhbjaljaaQx3
namespace Go.Proofs.Ytlimlbhhbjaljaa.Q
open Go.RowKit Go.Proofs.YtlimlbhhbjaljaaW.PrintWords Go.Proofs.YtlimlbhhbjaljaaW.PrintLast Go.Proofs.YtlimlbhhbjaljaaW.PrintMore
open Go.Proofs.YtlimlbhhbjaljaaV
attribute [local go_sem] max2_int min2_int max_two min_two max_three min_three max_four min_four   -- for this text's walks alone
set_option linter.unusedVariables false
set_option linter.unusedSimpArgs false

/-! ### meter_Count: function 16 -/
def meter_Count.f (a0_0 : Int) (a0_1 : Int) (a0_2 : Int) (a1 : Int) (a2 : Int) : Option (Int × Int × Int) := (meter_Count_1.f a0_0 a1).bind fun t107 => ((meter_Count_1.f a0_1 a2).bind fun t108 => (some (t107, t108, a0_2)))
def meter_Count.T2 : Bool × List (List Nat × List Nat) := (true, [([], []), ([], []), ([1], [1]), ([], []), ([0, 2, 3], [0, 2, 3]), ([], []), ([], []), ([6], [6]), ([], []), ([5, 7, 8, 4], [5, 7, 8]), ([4, 9], [4, 9]), ([], []), ([11, 10, 9, 0, 1, 2, 3, 4, 5, 6, 7, 8, 9, 10, 11], [10, 11])])
def meter_Count.B2 : List Nat := [0, 0, 2, 0, 15, 0, 0, 64, 0, 511, 1023, 0, 4095]
theorem meter_Count.tab2 : rtab .any (opsOf Try.f16 2) = meter_Count.T2 := by kernel_rfl
theorem meter_Count.bits2 : waitsOk meter_Count.T2.2 meter_Count.B2 = true := by kernel_rfl
def meter_Count.T3 : Bool × List (List Nat × List Nat) := (true, [([], []), ([0], [0]), ([], []), ([2], [2]), ([0, 1], []), ([4, 1, 0, 1], [1, 4]), ([0, 1, 2, 3, 4, 5], []), ([6, 3, 5, 0, 1, 2, 3, 4, 5], [3, 6])])
def meter_Count.B3 : List Nat := [0, 1, 0, 4, 3, 19, 63, 127]
theorem meter_Count.tab3 : rtab .any (opsOf Try.f16 3) = meter_Count.T3 := by kernel_rfl
theorem meter_Count.bits3 : waitsOk meter_Count.T3.2 meter_Count.B3 = true := by kernel_rfl
set_option maxHeartbeats 8000000 in
set_option maxRecDepth 100000 in
theorem meter_Count.calls (aj : Int) (ag : Int) (ak : Int) (a1 : Int) (a2 : Int) (r1 : Int) (r2 : Int) (r3 : Int) (w : World) (h : meter_Count.f aj ag ak a1 a2 = some (r1, r2, r3)) :
  Calls Try.prog 16 #[.agg #[.int .u64 aj, .int .u64 ag, .int .i64 ak], .int .i64 a1, .int .i64 a2] w fun e w' => e = .returned (.agg #[.int .u64 r1, .int .u64 r2, .int .i64 r3]) ∧ Below w.heap.size w w' := by
 have hu24 := Try.underlying24
 have hu64 := Try.underlying64
 have HB := Aside0.mk (Below.refl w.heap.size w)
 have H : ((meter_Count_1.f aj a1).bind fun ap => ((meter_Count_1.f ag a2).bind fun aq => (some (ap, aq, ak)))) = some (r1, r2, r3) := h
 clear h
 replace H := Option.bind_eq_some_iff.mp H
 obtain ⟨ap, ax, H⟩ := H
 replace H : ((meter_Count_1.f ag a2).bind fun aq => (some (ap, aq, ak))) = some (r1, r2, r3) := H
 have A4 := Aside0.mk ax
 clear ax
 replace H := Option.bind_eq_some_iff.mp H
 obtain ⟨aq, ay, H⟩ := H
 replace H : (some (ap, aq, ak)) = some (r1, r2, r3) := H
 have A5 := Aside0.mk ay
 clear ay
 simp only [Option.some.injEq, Prod.mk.injEq] at H
 obtain ⟨rfl, rfl, rfl⟩ := H
 go_enter Try.func16, Try.ntmps16
 try go_wp2_with (first | ((with_reducible refine gate_dst (N := 3) rfl ?_); refine box_event ?hg (N := 3) ?hd (cs := #[.int .u64 aj, .int .u64 ag, .int .i64 ak]) (t := 24) ?hr ?_; (case hd => rfl); (case hg => rfl); (case hr => first | (go_simp; done) | (go_simp; rfl)); intro ad hg w6 hbox hb; have n0_ := Aside0.mk (below_step (zH HB.out) hb); have n1_ := Aside0.mk (hbox); have n2_ := Aside0.mk ((by rw [hg]; exact (below_size (zH HB.out)) : w.heap.size ≤ ad)); have n3_ := Aside0.mk ((by rw [hg]; exact (below_size (zH HB.out)) : w.heap.size ≤ ad)); clear HB; have HB := n0_; have aa := n1_; have aL := n2_; have al := n3_; clear n0_ n1_ n2_ n3_; clear hb hbox hg) | ((with_reducible refine gate_dst (N := 6) rfl ?_); refine box_event ?hg (N := 6) ?hd (cs := #[.int .u64 0, .int .u64 0, .int .i64 0]) (t := 24) ?hr ?_; (case hd => rfl); (case hg => rfl); (case hr => first | (go_simp; done) | (go_simp; rfl)); intro ae hg w7 hbox hb; have n0_ := Aside0.mk (blk_below (g := ad) (o := .cells #[.int .u64 aj, .int .u64 ag, .int .i64 ak] 24 (0, 0)) (zB aa.out) hb); have n1_ := Aside0.mk (below_step (by repeat (first | (with_reducible first | exact HB.out | apply pA | apply pN | apply pD | refine pS ?_ al.out) | exact HB.out)) hb); have n2_ := Aside0.mk (hbox); have n3_ := Aside0.mk ((by rw [hg]; exact (below_size (by repeat (first | (with_reducible first | exact HB.out | apply pA | apply pN | apply pD | refine pS ?_ al.out) | exact HB.out))) : w.heap.size ≤ ae)); have n4_ := Aside0.mk ((by rw [hg]; exact (below_size (by repeat (first | (with_reducible first | exact HB.out | apply pA | apply pN | apply pD | refine pS ?_ al.out) | exact HB.out))) : w.heap.size ≤ ae)); have n5_ := Aside0.mk ((by rw [hg]; exact Nat.ne_of_lt (blk_lt (g := ad) (o := .cells #[.int .u64 aj, .int .u64 ag, .int .i64 ak] 24 (0, 0)) (zB aa.out)) : ad ≠ ae)); have n6_ := Aside0.mk ((by rw [hg]; exact Nat.ne_of_gt (blk_lt (g := ad) (o := .cells #[.int .u64 aj, .int .u64 ag, .int .i64 ak] 24 (0, 0)) (zB aa.out)) : ae ≠ ad)); clear aa; clear HB; have aa := n0_; have HB := n1_; have ac := n2_; have aM := n3_; have am := n4_; have av := n5_; have au := n6_; clear n0_ n1_ n2_ n3_ n4_ n5_ n6_; clear hb hbox hg))
 have n0_ := Aside0.mk (qD aa.out)
 have n1_ := Aside0.mk (qD ac.out)
 have n2_ := Aside0.mk (pD HB.out)
 clear aa
 clear ac
 clear HB
 have aa := n0_
 have ac := n1_
 have HB := n2_
 clear n0_ n1_ n2_
 refine start_ (n := 13) (S := fun w' => w'.cell? ⟨ad, 0, none⟩ = some (.int .u64 aj) ∧ w'.cell? ⟨ad, 1, none⟩ = some (.int .u64 ag) ∧ w'.cell? ⟨ad, 2, none⟩ = some (.int .i64 ak)) (ds := []) #[false, false, false, false, false, false, false, false, false, false, false, false, false] (by kernel_rfl) rfl rfl ⟨(blk_cell aa.out 0).trans rfl, (blk_cell aa.out 1).trans rfl, (blk_cell aa.out 2).trans rfl⟩ (fun hHeld => ?_); refine with_tabW meter_Count.tab2 meter_Count.bits2 (fun HT_ HW_ => ?_)
 generalize w7.drew = w8 at aa ac HB hHeld ⊢
 refine pure_ (i := 0) (N := some 9) (v := ?_) (a' := ?_) #[true, false, false, false, false, false, false, false, false, false, false, false, false] rfl rfl (any_of HT_.out (by kernel_rfl)) (fun _ _ _ h => h) (Or.inl ⟨by rfl, ?_⟩) ?_ ?_
 rotate_left
 ·intro w'
  go_simp
  with_reducible rfl
 rotate_left
 ·simp only [Act.put, sT, s0, s1, i64_w, i32_w]
  rfl
 refine pure_ (i := 1) (N := some 10) (v := ?_) (a' := ?_) #[true, true, false, false, false, false, false, false, false, false, false, false, false] rfl rfl (any_of HT_.out (by kernel_rfl)) (fun _ _ _ h => h) (Or.inl ⟨by rfl, ?_⟩) ?_ ?_
 rotate_left
 ·intro w'
  go_simp
  with_reducible rfl
 rotate_left
 ·simp only [Act.put, sT, s0, s1, i64_w, i32_w]
  rfl
 refine pure_ (i := 3) (N := some 12) (v := ?_) (a' := ?_) #[true, true, false, true, false, false, false, false, false, false, false, false, false] rfl rfl (any_of HT_.out (by kernel_rfl)) (fun _ _ _ h => h) (Or.inl ⟨by rfl, ?_⟩) ?_ ?_
 rotate_left
 ·intro w'
  go_simp
  with_reducible rfl
 rotate_left
 ·simp only [Act.put, sT, s0, s1, i64_w, i32_w]
  rfl
 refine pure_ (i := 5) (N := some 14) (v := ?_) (a' := ?_) #[true, true, false, true, false, true, false, false, false, false, false, false, false] rfl rfl (any_of HT_.out (by kernel_rfl)) (fun _ _ _ h => h) (Or.inl ⟨by rfl, ?_⟩) ?_ ?_
 rotate_left
 ·intro w'
  go_simp
  with_reducible rfl
 rotate_left
 ·simp only [Act.put, sT, s0, s1, i64_w, i32_w]
  rfl
 refine pure_ (i := 6) (N := some 15) (v := ?_) (a' := ?_) #[true, true, false, true, false, true, true, false, false, false, false, false, false] rfl rfl (any_of HT_.out (by kernel_rfl)) (fun _ _ _ h => h) (Or.inl ⟨by rfl, ?_⟩) ?_ ?_
 rotate_left
 ·intro w'
  go_simp
  with_reducible rfl
 rotate_left
 ·simp only [Act.put, sT, s0, s1, i64_w, i32_w]
  rfl
 refine pure_ (i := 8) (N := some 17) (v := ?_) (a' := ?_) #[true, true, false, true, false, true, true, false, true, false, false, false, false] rfl rfl (any_of HT_.out (by kernel_rfl)) (fun _ _ _ h => h) (Or.inl ⟨by rfl, ?_⟩) ?_ ?_
 rotate_left
 ·intro w'
  go_simp
  with_reducible rfl
 rotate_left
 ·simp only [Act.put, sT, s0, s1, i64_w, i32_w]
  rfl
 refine take_ (i := 2) (N := some 11) (v := ?_) (a' := ?_) #[true, true, true, true, false, true, true, false, true, false, false, false, false] rfl rfl (take_ofW HT_.out HW_.out (by kernel_rfl)) (fun _ _ _ h => h) (Or.inl ⟨by rfl, ?_⟩) hHeld ?_ ?_
 rotate_left
 ·rintro w' ⟨s0, s1, s2⟩
  go_simp
  with_reducible rfl
 rotate_left
 ·simp only [Act.put, sT, s0, s1, i64_w, i32_w]
  rfl
 refine take_ (i := 7) (N := some 16) (v := ?_) (a' := ?_) #[true, true, true, true, false, true, true, true, true, false, false, false, false] rfl rfl (take_ofW HT_.out HW_.out (by kernel_rfl)) (fun _ _ _ h => h) (Or.inl ⟨by rfl, ?_⟩) hHeld ?_ ?_
 rotate_left
 ·rintro w' ⟨s0, s1, s2⟩
  go_simp
  with_reducible rfl
 rotate_left
 ·simp only [Act.put, sT, s0, s1, i64_w, i32_w]
  rfl
 refine join_ (σ := Nat) 1 #[true, true, true, true, true, true, true, true, true, true, true, true, false] (fun s_ => [(13, .int .u64 ap), (18, .int .u64 aq), (8, .pointer (some ⟨s_, 0, none⟩)), (19, .agg #[.int .u64 ap, .int .u64 aq])]) (fun s_ w' => (w'.cell? ⟨ad, 0, none⟩ = some (.int .u64 aj) ∧ w'.cell? ⟨ad, 1, none⟩ = some (.int .u64 ag) ∧ w'.cell? ⟨ad, 2, none⟩ = some (.int .i64 ak)) ∧ (w'.heap[ad]? = some (.cells #[.int .u64 aj, .int .u64 ag, .int .i64 ak] 24 (0, 0))) ∧ (w'.heap[ae]? = some (.cells #[.int .u64 0, .int .u64 0, .int .i64 0] 24 (0, 0))) ∧ (w'.heap[s_]? = some (.cells #[.int .u64 0, .int .u64 0] 64 (0, 0))) ∧ (w.heap.size ≤ s_) ∧ (w.heap.size ≤ s_) ∧ (ad ≠ s_) ∧ (s_ ≠ ad) ∧ (ae ≠ s_) ∧ (s_ ≠ ae) ∧ (Below w.heap.size w w')) ?_ ?_
 rotate_left
 ·intro hCont
  refine two_ (i := 4) (j := 11) (Ni := some 13) (Nj := some 8) #[true, true, true, true, true, true, true, true, true, false, false, false, false] #[true, true, true, true, false, true, true, true, true, false, false, true, false] rfl rfl rfl rfl (two_of HT_.out (by kernel_rfl)) (by decide) (by decide) (fun K hK => ?_) (fun K hK => ?_)
  ·skip
   refine goesV_ Try.func26 (by kernel_rfl) rfl #[.int .u64 aj, .int .i64 a1] (by rfl) rfl rfl (by (try simp only [List.map_toArray, List.map_cons, List.map_nil]); first | done | rfl | (simp only [List.length_drop, List.length_take]; rfl)) ?_
   with_reducible refine (meter_Count_1.calls aj a1 ap _ A4.out).mono ?_
   rintro e w9 ⟨rfl, hb⟩
   refine ⟨_, rfl, ?_⟩
   have n0_ := Aside0.mk (blk_below (g := ad) (o := .cells #[.int .u64 aj, .int .u64 ag, .int .i64 ak] 24 (0, 0)) (zB aa.out) hb)
   have n1_ := Aside0.mk (blk_below (g := ae) (o := .cells #[.int .u64 0, .int .u64 0, .int .i64 0] 24 (0, 0)) (zB ac.out) hb)
   have n2_ := Aside0.mk (below_step (by repeat (first | (with_reducible first | exact HB.out | apply pA | apply pN | apply pD | refine pS ?_ al.out | refine pS ?_ am.out) | exact HB.out)) hb)
   clear aa
   clear ac
   clear HB
   have aa := n0_
   have ac := n1_
   have HB := n2_
   clear n0_ n1_ n2_
   (try clear hb)
   (try clear hb2)
   (try clear hk)
   (try clear hi)
   refine hK.out _ _ ⟨(blk_cell aa.out 0).trans rfl, (blk_cell aa.out 1).trans rfl, (blk_cell aa.out 2).trans rfl⟩ (fun hHeld => ?_)
   clear hK K
   refine norm_ (a' := ?_) ?_ ?_
   rotate_left
   ·show Act.put _ (some 13) _ = _
    simp only [Act.put, sT, s0, s1, i64_w, i32_w]
    rfl
   refine two_ (i := 9) (j := 11) (Ni := some 18) (Nj := some 8) #[true, true, true, true, true, true, true, true, true, true, false, false, false] #[true, true, true, true, true, true, true, true, true, false, false, true, false] rfl rfl rfl rfl (two_of HT_.out (by kernel_rfl)) (by decide) (by decide) (fun K hK => ?_) (fun K hK => ?_)
   ·skip
    refine goesV_ Try.func26 (by kernel_rfl) rfl #[.int .u64 ag, .int .i64 a2] (by rfl) rfl rfl (by (try simp only [List.map_toArray, List.map_cons, List.map_nil]); first | done | rfl | (simp only [List.length_drop, List.length_take]; rfl)) ?_
    with_reducible refine (meter_Count_1.calls ag a2 aq _ A5.out).mono ?_
    rintro e w10 ⟨rfl, hb⟩
    refine ⟨_, rfl, ?_⟩
    have n0_ := Aside0.mk (blk_below (g := ad) (o := .cells #[.int .u64 aj, .int .u64 ag, .int .i64 ak] 24 (0, 0)) (zB aa.out) hb)
    have n1_ := Aside0.mk (blk_below (g := ae) (o := .cells #[.int .u64 0, .int .u64 0, .int .i64 0] 24 (0, 0)) (zB ac.out) hb)
    have n2_ := Aside0.mk (below_step (by repeat (first | (with_reducible first | exact HB.out | apply pA | apply pN | apply pD | refine pS ?_ al.out | refine pS ?_ am.out) | exact HB.out)) hb)
    clear aa
    clear ac
    clear HB
    have aa := n0_
    have ac := n1_
    have HB := n2_
    clear n0_ n1_ n2_
    (try clear hb)
    (try clear hb2)
    (try clear hk)
    (try clear hi)
    refine hK.out _ _ ⟨(blk_cell aa.out 0).trans rfl, (blk_cell aa.out 1).trans rfl, (blk_cell aa.out 2).trans rfl⟩ (fun hHeld => ?_)
    clear hK K
    refine norm_ (a' := ?_) ?_ ?_
    rotate_left
    ·show Act.put _ (some 18) _ = _
     simp only [Act.put, sT, s0, s1, i64_w, i32_w]
     rfl
    refine pure_ (i := 10) (N := some 19) (v := ?_) (a' := ?_) #[true, true, true, true, true, true, true, true, true, true, true, false, false] rfl rfl (any_of HT_.out (by kernel_rfl)) (fun _ _ _ h => h) (Or.inl ⟨by rfl, ?_⟩) ?_ ?_
    rotate_left
    ·intro w'
     go_simp
     with_reducible rfl
    rotate_left
    ·simp only [Act.put, sT, s0, s1, i64_w, i32_w]
     rfl
    refine one_ (i := 11) (N := some 8) #[true, true, true, true, true, true, true, true, true, true, true, true, false] rfl rfl (one_of HT_.out (by kernel_rfl)) (by decide) (fun K hK => ?_)
    refine box_step ?hg (N := 8) ?hd (cs := #[.int .u64 0, .int .u64 0]) (t := 64) ?hr ?_; (case hd => rfl); (case hg => rfl); (case hr => first | (go_simp; done) | (go_simp; rfl))
    intro ab hg w11 hbox hb
    have n0_ := Aside0.mk (blk_below (g := ad) (o := .cells #[.int .u64 aj, .int .u64 ag, .int .i64 ak] 24 (0, 0)) (zB aa.out) hb)
    have n1_ := Aside0.mk (blk_below (g := ae) (o := .cells #[.int .u64 0, .int .u64 0, .int .i64 0] 24 (0, 0)) (zB ac.out) hb)
    have n2_ := Aside0.mk (below_step (by repeat (first | (with_reducible first | exact HB.out | apply pA | apply pN | apply pD | refine pS ?_ al.out | refine pS ?_ am.out) | exact HB.out)) hb)
    have n3_ := Aside0.mk (hbox)
    have n4_ := Aside0.mk ((by rw [hg]; exact (below_size (by repeat (first | (with_reducible first | exact HB.out | apply pA | apply pN | apply pD | refine pS ?_ al.out | refine pS ?_ am.out) | exact HB.out))) : w.heap.size ≤ ab))
    have n5_ := Aside0.mk ((by rw [hg]; exact (below_size (by repeat (first | (with_reducible first | exact HB.out | apply pA | apply pN | apply pD | refine pS ?_ al.out | refine pS ?_ am.out) | exact HB.out))) : w.heap.size ≤ ab))
    have n6_ := Aside0.mk ((by rw [hg]; exact Nat.ne_of_lt (blk_lt (g := ad) (o := .cells #[.int .u64 aj, .int .u64 ag, .int .i64 ak] 24 (0, 0)) (zB aa.out)) : ad ≠ ab))
    have n7_ := Aside0.mk ((by rw [hg]; exact Nat.ne_of_gt (blk_lt (g := ad) (o := .cells #[.int .u64 aj, .int .u64 ag, .int .i64 ak] 24 (0, 0)) (zB aa.out)) : ab ≠ ad))
    have n8_ := Aside0.mk ((by rw [hg]; exact Nat.ne_of_lt (blk_lt (g := ae) (o := .cells #[.int .u64 0, .int .u64 0, .int .i64 0] 24 (0, 0)) (zB ac.out)) : ae ≠ ab))
    have n9_ := Aside0.mk ((by rw [hg]; exact Nat.ne_of_gt (blk_lt (g := ae) (o := .cells #[.int .u64 0, .int .u64 0, .int .i64 0] 24 (0, 0)) (zB ac.out)) : ab ≠ ae))
    clear aa
    clear ac
    clear HB
    have aa := n0_
    have ac := n1_
    have HB := n2_
    have af := n3_
    have aw := n4_
    have ar := n5_
    have ah := n6_
    have ai := n7_
    have an := n8_
    have ao := n9_
    clear n0_ n1_ n2_ n3_ n4_ n5_ n6_ n7_ n8_ n9_
    clear hb hbox hg
    refine hK.out _ _ ⟨(blk_cell aa.out 0).trans rfl, (blk_cell aa.out 1).trans rfl, (blk_cell aa.out 2).trans rfl⟩ (fun hHeld => ?_)
    clear hK K
    refine norm_ (a' := ?_) ?_ ?_
    rotate_left
    ·show Act.put _ (some 8) _ = _
     simp only [Act.put, sT, s0, s1, i64_w, i32_w]
     rfl
    exact norm_ (by simp only [putAll, Act.put, sT, s0, s1]) (hCont (ab) _ ⟨hHeld, (zB aa.out), (zB ac.out), (zB af.out), aw.out, ar.out, ah.out, ai.out, an.out, ao.out, (by repeat (first | (with_reducible first | exact HB.out | apply pA | apply pN | apply pD | refine pS ?_ al.out | refine pS ?_ am.out | refine pS ?_ ar.out) | exact HB.out))⟩)
   ·skip
    refine box_step ?hg (N := 8) ?hd (cs := #[.int .u64 0, .int .u64 0]) (t := 64) ?hr ?_; (case hd => rfl); (case hg => rfl); (case hr => first | (go_simp; done) | (go_simp; rfl))
    intro ab hg w10 hbox hb
    have n0_ := Aside0.mk (blk_below (g := ad) (o := .cells #[.int .u64 aj, .int .u64 ag, .int .i64 ak] 24 (0, 0)) (zB aa.out) hb)
    have n1_ := Aside0.mk (blk_below (g := ae) (o := .cells #[.int .u64 0, .int .u64 0, .int .i64 0] 24 (0, 0)) (zB ac.out) hb)
    have n2_ := Aside0.mk (below_step (by repeat (first | (with_reducible first | exact HB.out | apply pA | apply pN | apply pD | refine pS ?_ al.out | refine pS ?_ am.out) | exact HB.out)) hb)
    have n3_ := Aside0.mk (hbox)
    have n4_ := Aside0.mk ((by rw [hg]; exact (below_size (by repeat (first | (with_reducible first | exact HB.out | apply pA | apply pN | apply pD | refine pS ?_ al.out | refine pS ?_ am.out) | exact HB.out))) : w.heap.size ≤ ab))
    have n5_ := Aside0.mk ((by rw [hg]; exact (below_size (by repeat (first | (with_reducible first | exact HB.out | apply pA | apply pN | apply pD | refine pS ?_ al.out | refine pS ?_ am.out) | exact HB.out))) : w.heap.size ≤ ab))
    have n6_ := Aside0.mk ((by rw [hg]; exact Nat.ne_of_lt (blk_lt (g := ad) (o := .cells #[.int .u64 aj, .int .u64 ag, .int .i64 ak] 24 (0, 0)) (zB aa.out)) : ad ≠ ab))
    have n7_ := Aside0.mk ((by rw [hg]; exact Nat.ne_of_gt (blk_lt (g := ad) (o := .cells #[.int .u64 aj, .int .u64 ag, .int .i64 ak] 24 (0, 0)) (zB aa.out)) : ab ≠ ad))
    have n8_ := Aside0.mk ((by rw [hg]; exact Nat.ne_of_lt (blk_lt (g := ae) (o := .cells #[.int .u64 0, .int .u64 0, .int .i64 0] 24 (0, 0)) (zB ac.out)) : ae ≠ ab))
    have n9_ := Aside0.mk ((by rw [hg]; exact Nat.ne_of_gt (blk_lt (g := ae) (o := .cells #[.int .u64 0, .int .u64 0, .int .i64 0] 24 (0, 0)) (zB ac.out)) : ab ≠ ae))
    clear aa
    clear ac
    clear HB
    have aa := n0_
    have ac := n1_
    have HB := n2_
    have af := n3_
    have aw := n4_
    have ar := n5_
    have ah := n6_
    have ai := n7_
    have an := n8_
    have ao := n9_
    clear n0_ n1_ n2_ n3_ n4_ n5_ n6_ n7_ n8_ n9_
    clear hb hbox hg
    refine hK.out _ _ ⟨(blk_cell aa.out 0).trans rfl, (blk_cell aa.out 1).trans rfl, (blk_cell aa.out 2).trans rfl⟩ (fun hHeld => ?_)
    clear hK K
    refine norm_ (a' := ?_) ?_ ?_
    rotate_left
    ·show Act.put _ (some 8) _ = _
     simp only [Act.put, sT, s0, s1, i64_w, i32_w]
     rfl
    refine one_ (i := 9) (N := some 18) #[true, true, true, true, true, true, true, true, true, true, false, true, false] rfl rfl (one_of HT_.out (by kernel_rfl)) (by decide) (fun K hK => ?_)
    refine goesV_ Try.func26 (by kernel_rfl) rfl #[.int .u64 ag, .int .i64 a2] (by rfl) rfl rfl (by (try simp only [List.map_toArray, List.map_cons, List.map_nil]); first | done | rfl | (simp only [List.length_drop, List.length_take]; rfl)) ?_
    with_reducible refine (meter_Count_1.calls ag a2 aq _ A5.out).mono ?_
    rintro e w11 ⟨rfl, hb⟩
    refine ⟨_, rfl, ?_⟩
    have n0_ := Aside0.mk (blk_below (g := ad) (o := .cells #[.int .u64 aj, .int .u64 ag, .int .i64 ak] 24 (0, 0)) (zB aa.out) hb)
    have n1_ := Aside0.mk (blk_below (g := ae) (o := .cells #[.int .u64 0, .int .u64 0, .int .i64 0] 24 (0, 0)) (zB ac.out) hb)
    have n2_ := Aside0.mk (blk_below (g := ab) (o := .cells #[.int .u64 0, .int .u64 0] 64 (0, 0)) (zB af.out) hb)
    have n3_ := Aside0.mk (below_step (by repeat (first | (with_reducible first | exact HB.out | apply pA | apply pN | apply pD | refine pS ?_ al.out | refine pS ?_ am.out | refine pS ?_ ar.out) | exact HB.out)) hb)
    clear aa
    clear ac
    clear af
    clear HB
    have aa := n0_
    have ac := n1_
    have af := n2_
    have HB := n3_
    clear n0_ n1_ n2_ n3_
    (try clear hb)
    (try clear hb2)
    (try clear hk)
    (try clear hi)
    refine hK.out _ _ ⟨(blk_cell aa.out 0).trans rfl, (blk_cell aa.out 1).trans rfl, (blk_cell aa.out 2).trans rfl⟩ (fun hHeld => ?_)
    clear hK K
    refine norm_ (a' := ?_) ?_ ?_
    rotate_left
    ·show Act.put _ (some 18) _ = _
     simp only [Act.put, sT, s0, s1, i64_w, i32_w]
     rfl
    refine pure_ (i := 10) (N := some 19) (v := ?_) (a' := ?_) #[true, true, true, true, true, true, true, true, true, true, true, true, false] rfl rfl (any_of HT_.out (by kernel_rfl)) (fun _ _ _ h => h) (Or.inl ⟨by rfl, ?_⟩) ?_ ?_
    rotate_left
    ·intro w'
     go_simp
     with_reducible rfl
    rotate_left
    ·simp only [Act.put, sT, s0, s1, i64_w, i32_w]
     rfl
    exact norm_ (by simp only [putAll, Act.put, sT, s0, s1]) (hCont (ab) _ ⟨hHeld, (zB aa.out), (zB ac.out), (zB af.out), aw.out, ar.out, ah.out, ai.out, an.out, ao.out, (by repeat (first | (with_reducible first | exact HB.out | apply pA | apply pN | apply pD | refine pS ?_ al.out | refine pS ?_ am.out | refine pS ?_ ar.out) | exact HB.out))⟩)
  ·skip
   refine box_step ?hg (N := 8) ?hd (cs := #[.int .u64 0, .int .u64 0]) (t := 64) ?hr ?_; (case hd => rfl); (case hg => rfl); (case hr => first | (go_simp; done) | (go_simp; rfl))
   intro ab hg w9 hbox hb
   have n0_ := Aside0.mk (blk_below (g := ad) (o := .cells #[.int .u64 aj, .int .u64 ag, .int .i64 ak] 24 (0, 0)) (zB aa.out) hb)
   have n1_ := Aside0.mk (blk_below (g := ae) (o := .cells #[.int .u64 0, .int .u64 0, .int .i64 0] 24 (0, 0)) (zB ac.out) hb)
   have n2_ := Aside0.mk (below_step (by repeat (first | (with_reducible first | exact HB.out | apply pA | apply pN | apply pD | refine pS ?_ al.out | refine pS ?_ am.out) | exact HB.out)) hb)
   have n3_ := Aside0.mk (hbox)
   have n4_ := Aside0.mk ((by rw [hg]; exact (below_size (by repeat (first | (with_reducible first | exact HB.out | apply pA | apply pN | apply pD | refine pS ?_ al.out | refine pS ?_ am.out) | exact HB.out))) : w.heap.size ≤ ab))
   have n5_ := Aside0.mk ((by rw [hg]; exact (below_size (by repeat (first | (with_reducible first | exact HB.out | apply pA | apply pN | apply pD | refine pS ?_ al.out | refine pS ?_ am.out) | exact HB.out))) : w.heap.size ≤ ab))
   have n6_ := Aside0.mk ((by rw [hg]; exact Nat.ne_of_lt (blk_lt (g := ad) (o := .cells #[.int .u64 aj, .int .u64 ag, .int .i64 ak] 24 (0, 0)) (zB aa.out)) : ad ≠ ab))
   have n7_ := Aside0.mk ((by rw [hg]; exact Nat.ne_of_gt (blk_lt (g := ad) (o := .cells #[.int .u64 aj, .int .u64 ag, .int .i64 ak] 24 (0, 0)) (zB aa.out)) : ab ≠ ad))
   have n8_ := Aside0.mk ((by rw [hg]; exact Nat.ne_of_lt (blk_lt (g := ae) (o := .cells #[.int .u64 0, .int .u64 0, .int .i64 0] 24 (0, 0)) (zB ac.out)) : ae ≠ ab))
   have n9_ := Aside0.mk ((by rw [hg]; exact Nat.ne_of_gt (blk_lt (g := ae) (o := .cells #[.int .u64 0, .int .u64 0, .int .i64 0] 24 (0, 0)) (zB ac.out)) : ab ≠ ae))
   clear aa
   clear ac
   clear HB
   have aa := n0_
   have ac := n1_
   have HB := n2_
   have af := n3_
   have aw := n4_
   have ar := n5_
   have ah := n6_
   have ai := n7_
   have an := n8_
   have ao := n9_
   clear n0_ n1_ n2_ n3_ n4_ n5_ n6_ n7_ n8_ n9_
   clear hb hbox hg
   refine hK.out _ _ ⟨(blk_cell aa.out 0).trans rfl, (blk_cell aa.out 1).trans rfl, (blk_cell aa.out 2).trans rfl⟩ (fun hHeld => ?_)
   clear hK K
   refine norm_ (a' := ?_) ?_ ?_
   rotate_left
   ·show Act.put _ (some 8) _ = _
    simp only [Act.put, sT, s0, s1, i64_w, i32_w]
    rfl
   refine one_ (i := 4) (N := some 13) #[true, true, true, true, true, true, true, true, true, false, false, true, false] rfl rfl (one_of HT_.out (by kernel_rfl)) (by decide) (fun K hK => ?_)
   refine goesV_ Try.func26 (by kernel_rfl) rfl #[.int .u64 aj, .int .i64 a1] (by rfl) rfl rfl (by (try simp only [List.map_toArray, List.map_cons, List.map_nil]); first | done | rfl | (simp only [List.length_drop, List.length_take]; rfl)) ?_
   with_reducible refine (meter_Count_1.calls aj a1 ap _ A4.out).mono ?_
   rintro e w10 ⟨rfl, hb⟩
   refine ⟨_, rfl, ?_⟩
   have n0_ := Aside0.mk (blk_below (g := ad) (o := .cells #[.int .u64 aj, .int .u64 ag, .int .i64 ak] 24 (0, 0)) (zB aa.out) hb)
   have n1_ := Aside0.mk (blk_below (g := ae) (o := .cells #[.int .u64 0, .int .u64 0, .int .i64 0] 24 (0, 0)) (zB ac.out) hb)
   have n2_ := Aside0.mk (blk_below (g := ab) (o := .cells #[.int .u64 0, .int .u64 0] 64 (0, 0)) (zB af.out) hb)
   have n3_ := Aside0.mk (below_step (by repeat (first | (with_reducible first | exact HB.out | apply pA | apply pN | apply pD | refine pS ?_ al.out | refine pS ?_ am.out | refine pS ?_ ar.out) | exact HB.out)) hb)
   clear aa
   clear ac
   clear af
   clear HB
   have aa := n0_
   have ac := n1_
   have af := n2_
   have HB := n3_
   clear n0_ n1_ n2_ n3_
   (try clear hb)
   (try clear hb2)
   (try clear hk)
   (try clear hi)
   refine hK.out _ _ ⟨(blk_cell aa.out 0).trans rfl, (blk_cell aa.out 1).trans rfl, (blk_cell aa.out 2).trans rfl⟩ (fun hHeld => ?_)
   clear hK K
   refine norm_ (a' := ?_) ?_ ?_
   rotate_left
   ·show Act.put _ (some 13) _ = _
    simp only [Act.put, sT, s0, s1, i64_w, i32_w]
    rfl
   refine one_ (i := 9) (N := some 18) #[true, true, true, true, true, true, true, true, true, true, false, true, false] rfl rfl (one_of HT_.out (by kernel_rfl)) (by decide) (fun K hK => ?_)
   refine goesV_ Try.func26 (by kernel_rfl) rfl #[.int .u64 ag, .int .i64 a2] (by rfl) rfl rfl (by (try simp only [List.map_toArray, List.map_cons, List.map_nil]); first | done | rfl | (simp only [List.length_drop, List.length_take]; rfl)) ?_
   with_reducible refine (meter_Count_1.calls ag a2 aq _ A5.out).mono ?_
   rintro e w11 ⟨rfl, hb⟩
   refine ⟨_, rfl, ?_⟩
   have n0_ := Aside0.mk (blk_below (g := ad) (o := .cells #[.int .u64 aj, .int .u64 ag, .int .i64 ak] 24 (0, 0)) (zB aa.out) hb)
   have n1_ := Aside0.mk (blk_below (g := ae) (o := .cells #[.int .u64 0, .int .u64 0, .int .i64 0] 24 (0, 0)) (zB ac.out) hb)
   have n2_ := Aside0.mk (blk_below (g := ab) (o := .cells #[.int .u64 0, .int .u64 0] 64 (0, 0)) (zB af.out) hb)
   have n3_ := Aside0.mk (below_step (by repeat (first | (with_reducible first | exact HB.out | apply pA | apply pN | apply pD | refine pS ?_ al.out | refine pS ?_ am.out | refine pS ?_ ar.out) | exact HB.out)) hb)
   clear aa
   clear ac
   clear af
   clear HB
   have aa := n0_
   have ac := n1_
   have af := n2_
   have HB := n3_
   clear n0_ n1_ n2_ n3_
   (try clear hb)
   (try clear hb2)
   (try clear hk)
   (try clear hi)
   refine hK.out _ _ ⟨(blk_cell aa.out 0).trans rfl, (blk_cell aa.out 1).trans rfl, (blk_cell aa.out 2).trans rfl⟩ (fun hHeld => ?_)
   clear hK K
   refine norm_ (a' := ?_) ?_ ?_
   rotate_left
   ·show Act.put _ (some 18) _ = _
    simp only [Act.put, sT, s0, s1, i64_w, i32_w]
    rfl
   refine pure_ (i := 10) (N := some 19) (v := ?_) (a' := ?_) #[true, true, true, true, true, true, true, true, true, true, true, true, false] rfl rfl (any_of HT_.out (by kernel_rfl)) (fun _ _ _ h => h) (Or.inl ⟨by rfl, ?_⟩) ?_ ?_
   rotate_left
   ·intro w'
    go_simp
    with_reducible rfl
   rotate_left
   ·simp only [Act.put, sT, s0, s1, i64_w, i32_w]
    rfl
   exact norm_ (by simp only [putAll, Act.put, sT, s0, s1]) (hCont (ab) _ ⟨hHeld, (zB aa.out), (zB ac.out), (zB af.out), aw.out, ar.out, ah.out, ai.out, an.out, ao.out, (by repeat (first | (with_reducible first | exact HB.out | apply pA | apply pN | apply pD | refine pS ?_ al.out | refine pS ?_ am.out | refine pS ?_ ar.out) | exact HB.out))⟩)
 rintro ab w12 ⟨hS_, h0_, h1_, h2_, h3_, h4_, h5_, h6_, h7_, h8_, h9_⟩
 have n0_ : Aside0 (w12.heap[ad]? = some (.cells #[.int .u64 aj, .int .u64 ag, .int .i64 ak] 24 (0, 0))) := ⟨h0_⟩
 have n1_ : Aside0 (w12.heap[ae]? = some (.cells #[.int .u64 0, .int .u64 0, .int .i64 0] 24 (0, 0))) := ⟨h1_⟩
 have n2_ : Aside0 (w12.heap[ab]? = some (.cells #[.int .u64 0, .int .u64 0] 64 (0, 0))) := ⟨h2_⟩
 have n3_ : Aside0 (w.heap.size ≤ ab) := ⟨h3_⟩
 have n4_ : Aside0 (w.heap.size ≤ ab) := ⟨h4_⟩
 have n5_ : Aside0 (ad ≠ ab) := ⟨h5_⟩
 have n6_ : Aside0 (ab ≠ ad) := ⟨h6_⟩
 have n7_ : Aside0 (ae ≠ ab) := ⟨h7_⟩
 have n8_ : Aside0 (ab ≠ ae) := ⟨h8_⟩
 have n9_ : Aside0 (Below w.heap.size w w12) := ⟨h9_⟩
 clear aa
 clear ac
 clear HB
 clear h0_ h1_ h2_ h3_ h4_ h5_ h6_ h7_ h8_ h9_
 have aa := n0_
 have ac := n1_
 have af := n2_
 have aw := n3_
 have ar := n4_
 have ah := n5_
 have ai := n6_
 have an := n7_
 have ao := n8_
 have HB := n9_
 clear n0_ n1_ n2_ n3_ n4_ n5_ n6_ n7_ n8_ n9_
 have hHeld : w12.cell? ⟨ad, 0, none⟩ = some (.int .u64 aj) ∧ w12.cell? ⟨ad, 1, none⟩ = some (.int .u64 ag) ∧ w12.cell? ⟨ad, 2, none⟩ = some (.int .i64 ak) := hS_
 refine norm_ (a' := ?_) ?_ ?_
 rotate_left
 ·simp only [putAll, Act.put, sT, s0, s1]
  rfl
 refine one_ (i := 12) (N := none) #[true, true, true, true, true, true, true, true, true, true, true, true, true] rfl rfl (one_of HT_.out (by kernel_rfl)) (by decide) (fun K hK => ?_)
 have hs13 : w12.cell? ⟨ab, 0, none⟩ = some (.int .u64 0) := (blk_cell af.out 0).trans rfl
 have hfs13 := blk_frozen af.out 0
 have hns13_0 := ah.out
 have hns13_1 := an.out
 have hms13_0 := ai.out
 have hms13_1 := ao.out
 have hs14 : w12.cell? ⟨ab, 1, none⟩ = some (.int .u64 0) := (blk_cell af.out 1).trans rfl
 have hfs14 := blk_frozen af.out 1
 have hns14_0 := ah.out
 have hns14_1 := an.out
 have hms14_0 := ai.out
 have hms14_1 := ao.out
 refine skip_ (w1 := ?_) (by rfl) rfl ?_ ?_
 rotate_left
 ·go_simp
  rfl
 refine hK.out _ _ ⟨(fC ah.out hHeld.1), (fC ah.out hHeld.2.1), (fC ah.out hHeld.2.2)⟩ (fun hHeld => ?_)
 clear hK K
 refine done_ (done_of HT_.out (by kernel_rfl)) ?_
 try go_wp2
 have n0_ : Aside0 (((w12.setCell ⟨ab, 0, none⟩ (.int .u64 ap)).setCell ⟨ab, 1, none⟩ (.int .u64 aq)).heap[ad]? = some (.cells #[.int .u64 aj, .int .u64 ag, .int .i64 ak] 24 (0, 0))) := ⟨fB ah.out aa.out⟩
 have n1_ : Aside0 (((w12.setCell ⟨ab, 0, none⟩ (.int .u64 ap)).setCell ⟨ab, 1, none⟩ (.int .u64 aq)).heap[ae]? = some (.cells #[.int .u64 0, .int .u64 0, .int .i64 0] 24 (0, 0))) := ⟨fB an.out ac.out⟩
 have n2_ : Aside0 (((w12.setCell ⟨ab, 0, none⟩ (.int .u64 ap)).setCell ⟨ab, 1, none⟩ (.int .u64 aq)).heap[ab]? = some (.cells #[.int .u64 ap, .int .u64 aq] 64 (0, 0))) := ⟨by (with_reducible repeat (first | refine qN ?_ _ | refine qD ?_ | refine qA ?_ _)); refine blk_put (cs := #[.int .u64 ap, .int .u64 0]) ?_ 1 _ rfl; (with_reducible repeat (first | refine qN ?_ _ | refine qD ?_ | refine qA ?_ _)); refine blk_put (cs := #[.int .u64 0, .int .u64 0]) ?_ 0 _ rfl; (with_reducible repeat (first | refine qN ?_ _ | refine qD ?_ | refine qA ?_ _)); exact af.out⟩
 have n3_ : Aside0 (Below w.heap.size w ((w12.setCell ⟨ab, 0, none⟩ (.int .u64 ap)).setCell ⟨ab, 1, none⟩ (.int .u64 aq))) := ⟨by repeat (first | (with_reducible first | exact HB.out | apply pA | apply pN | apply pD | refine pS ?_ al.out | refine pS ?_ am.out | refine pS ?_ ar.out) | exact HB.out)⟩
 (try clear aa)
 (try clear ac)
 (try clear af)
 (try clear HB)
 generalize ((w12.setCell ⟨ab, 0, none⟩ (.int .u64 ap)).setCell ⟨ab, 1, none⟩ (.int .u64 aq)) = w15 at n0_ n1_ n2_ n3_ ⊢
 have aa := n0_
 have ac := n1_
 have af := n2_
 have HB := n3_
 clear n0_ n1_ n2_ n3_
 have n0_ := Aside0.mk (qD aa.out)
 have n1_ := Aside0.mk (qD ac.out)
 have n2_ := Aside0.mk (qD af.out)
 have n3_ := Aside0.mk (pD HB.out)
 clear aa
 clear ac
 clear af
 clear HB
 have aa := n0_
 have ac := n1_
 have af := n2_
 have HB := n3_
 clear n0_ n1_ n2_ n3_
 refine start_ (n := 8) (S := fun w' => w'.cell? ⟨ab, 0, none⟩ = some (.int .u64 ap) ∧ w'.cell? ⟨ab, 1, none⟩ = some (.int .u64 aq)) (ds := []) #[false, false, false, false, false, false, false, false] (by kernel_rfl) rfl rfl ⟨(blk_cell af.out 0).trans rfl, (blk_cell af.out 1).trans rfl⟩ (fun hHeld => ?_); refine with_tabW meter_Count.tab3 meter_Count.bits3 (fun HT_ HW_ => ?_)
 generalize w15.drew = w16 at aa ac af HB hHeld ⊢
 refine pure_ (i := 0) (N := some 20) (v := ?_) (a' := ?_) #[true, false, false, false, false, false, false, false] rfl rfl (any_of HT_.out (by kernel_rfl)) (fun _ _ _ h => h) (Or.inl ⟨by rfl, ?_⟩) ?_ ?_
 rotate_left
 ·intro w'
  go_simp
  with_reducible rfl
 rotate_left
 ·simp only [Act.put, sT, s0, s1, i64_w, i32_w]
  rfl
 refine pure_ (i := 2) (N := some 22) (v := ?_) (a' := ?_) #[true, false, true, false, false, false, false, false] rfl rfl (any_of HT_.out (by kernel_rfl)) (fun _ _ _ h => h) (Or.inl ⟨by rfl, ?_⟩) ?_ ?_
 rotate_left
 ·intro w'
  go_simp
  with_reducible rfl
 rotate_left
 ·simp only [Act.put, sT, s0, s1, i64_w, i32_w]
  rfl
 refine take_ (i := 1) (N := some 21) (v := ?_) (a' := ?_) #[true, true, true, false, false, false, false, false] rfl rfl (take_ofW HT_.out HW_.out (by kernel_rfl)) (fun _ _ _ h => h) (Or.inl ⟨by rfl, ?_⟩) hHeld ?_ ?_
 rotate_left
 ·rintro w' ⟨s0, s1⟩
  go_simp
  with_reducible rfl
 rotate_left
 ·simp only [Act.put, sT, s0, s1, i64_w, i32_w]
  rfl
 refine pure_ (i := 4) (N := some 24) (v := ?_) (a' := ?_) #[true, true, true, false, true, false, false, false] rfl rfl (any_of HT_.out (by kernel_rfl)) (fun _ _ _ h => h) (Or.inl ⟨by rfl, ?_⟩) ?_ ?_
 rotate_left
 ·intro w'
  go_simp
  with_reducible rfl
 rotate_left
 ·simp only [Act.put, sT, s0, s1, i64_w, i32_w]
  rfl
 refine take_ (i := 3) (N := some 23) (v := ?_) (a' := ?_) #[true, true, true, true, true, false, false, false] rfl rfl (take_ofW HT_.out HW_.out (by kernel_rfl)) (fun _ _ _ h => h) (Or.inl ⟨by rfl, ?_⟩) hHeld ?_ ?_
 rotate_left
 ·rintro w' ⟨s0, s1⟩
  go_simp
  with_reducible rfl
 rotate_left
 ·simp only [Act.put, sT, s0, s1, i64_w, i32_w]
  rfl
 refine one_ (i := 5) (N := none) #[true, true, true, true, true, true, false, false] rfl rfl (one_of HT_.out (by kernel_rfl)) (by decide) (fun K hK => ?_)
 have hs17 : w16.cell? ⟨ad, 0, none⟩ = some (.int .u64 aj) := (blk_cell aa.out 0).trans rfl
 have hfs17 := blk_frozen aa.out 0
 have hns17_1 := au.out
 have hns17_2 := ai.out
 have hms17_1 := av.out
 have hms17_2 := ah.out
 refine skip_ (w1 := ?_) (by rfl) rfl ?_ ?_
 rotate_left
 ·go_simp
  rfl
 refine hK.out _ _ ⟨(fC ai.out hHeld.1), (fC ai.out hHeld.2)⟩ (fun hHeld => ?_)
 clear hK K
 refine pure_ (i := 6) (N := some 25) (v := ?_) (a' := ?_) #[true, true, true, true, true, true, true, false] rfl rfl (any_of HT_.out (by kernel_rfl)) (fun _ _ _ h => h) (Or.inl ⟨by rfl, ?_⟩) ?_ ?_
 rotate_left
 ·intro w'
  go_simp
  with_reducible rfl
 rotate_left
 ·simp only [Act.put, sT, s0, s1, i64_w, i32_w]
  rfl
 refine one_ (i := 7) (N := none) #[true, true, true, true, true, true, true, true] rfl rfl (one_of HT_.out (by kernel_rfl)) (by decide) (fun K hK => ?_)
 have hs18 : w16.cell? ⟨ad, 1, none⟩ = some (.int .u64 ag) := (blk_cell aa.out 1).trans rfl
 have hfs18 := blk_frozen aa.out 1
 have hns18_1 := au.out
 have hns18_2 := ai.out
 have hms18_1 := av.out
 have hms18_2 := ah.out
 refine skip_ (w1 := ?_) (by rfl) rfl ?_ ?_
 rotate_left
 ·go_simp
  rfl
 refine hK.out _ _ ⟨(fC ai.out hHeld.1), (fC ai.out hHeld.2)⟩ (fun hHeld => ?_)
 clear hK K
 refine done_ (done_of HT_.out (by kernel_rfl)) ?_
 have aN := av.out
 have aO := au.out
 have aP := ah.out
 have aQ := ai.out
 obtain ⟨az, aA, aB, aC, aD, aE⟩ := bk3 aa.out
 have aR := an.out
 have aS := ao.out
 obtain ⟨aF, aG, aH, aI, aJ, aK⟩ := bk3 ac.out
 try go_wp2
 refine bodyPost_ret (results_cell_row rfl _ _ ae 24 #[.int .u64 ap, .int .u64 aq, .int .i64 ak] (0, 0) _ rfl (by (with_reducible repeat (first | refine qN ?_ _ | refine qD ?_ | refine qA ?_ _)); refine blk_put (cs := #[.int .u64 ap, .int .u64 aq, .int .i64 0]) ?_ 2 _ rfl; (with_reducible repeat (first | refine qN ?_ _ | refine qD ?_ | refine qA ?_ _)); refine blk_put (cs := #[.int .u64 ap, .int .u64 0, .int .i64 0]) ?_ 1 _ rfl; (with_reducible repeat (first | refine qN ?_ _ | refine qD ?_ | refine qA ?_ _)); refine blk_put (cs := #[.int .u64 0, .int .u64 0, .int .i64 0]) ?_ 0 _ rfl; (with_reducible repeat (first | refine qN ?_ _ | refine qD ?_ | refine qA ?_ _)); refine blk_far ?_ au.out _; (with_reducible repeat (first | refine qN ?_ _ | refine qD ?_ | refine qA ?_ _)); refine blk_far ?_ au.out _; (with_reducible repeat (first | refine qN ?_ _ | refine qD ?_ | refine qA ?_ _)); exact ac.out) Try.underlying24 rfl (by kernel_rfl)) rfl ?_
 exact ⟨by first | rfl | (simp [errW_none, errW_some] <;> rfl) | (simp [*, errW_none, errW_some] <;> rfl), by repeat (first | (with_reducible first | exact HB.out | apply pA | apply pN | apply pD | refine pS ?_ al.out | refine pS ?_ am.out | refine pS ?_ ar.out) | exact HB.out)⟩

end Go.Proofs.Ytlimlbhhbjaljaa.Q

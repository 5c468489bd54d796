-- written by this session's own program (wip/tools/myprint.py), over the kit's print
import Derived.Test.YtlimlbhhbjaljaaQx0
namespace Go.Proofs.Ytlimlbhhbjaljaa.Q
open Go.RowKit Go.Proofs.YtlimlbhhbjaljaaW.PrintWords Go.Proofs.YtlimlbhhbjaljaaW.PrintLast Go.Proofs.YtlimlbhhbjaljaaW.PrintMore
open Go.Proofs.YtlimlbhhbjaljaaV
attribute [local go_sem] max2_int min2_int max_two min_two max_three min_three max_four min_four   -- for this text's walks alone
set_option linter.unusedVariables false
set_option linter.unusedSimpArgs false

/-! ### portreeveref04_With: function 37 -/
def portreeveref04_With.f (a0_0 : Int) (l0_1 : List (S51)) (l0_2 : List (S56)) (l0_3 : List (S68)) (a1_0 : Int) (a1_1 : Int) (a1_2 : Int) (a1_3 : Int) (a1_4 : Int) : Option (Int × (List (S51)) × (List (S56)) × (List (S68))) := (some (([] : List (S56)) : List (S56))).bind fun y279 => (if y279.length + l0_2.length < 3518437208883 then ((some (y279 ++ l0_2 : List (S56))).bind fun y282 => ((some (([(⟨a1_0, a1_1, a1_2, a1_3, a1_4⟩ : S56)] : List (S56)) : List (S56))).bind fun y285 => (if y282.length + y285.length < 3518437208883 then (some (a0_0, l0_1, (y282 ++ y285), l0_3)) else (none)))) else (none))
def portreeveref04_With.T1 : Bool × List (List Nat × List Nat) := (true, [([], []), ([], []), ([1], [1]), ([0, 2], [0, 2]), ([], []), ([4], [4]), ([3, 5, 3], [3, 5]), ([0, 1, 2, 3, 4, 5, 6], []), ([7, 6, 6, 0, 1, 2, 3, 4, 5, 6], [6, 7])])
def portreeveref04_With.B1 : List Nat := [0, 0, 2, 7, 0, 16, 63, 127, 255]
theorem portreeveref04_With.tab1 : rtab .any (opsOf Try.f37 1) = portreeveref04_With.T1 := by kernel_rfl
theorem portreeveref04_With.bits1 : waitsOk portreeveref04_With.T1.2 portreeveref04_With.B1 = true := by kernel_rfl
set_option maxHeartbeats 8000000 in
set_option maxRecDepth 100000 in
theorem portreeveref04_With.calls (ao : Int) (az : Nat → Prop) (aq : Option Addr) (ar : Nat) (ak : List (S51)) (ax : Option Addr) (ay : Nat) (an : List (S56)) (aA : Nat → Prop) (au : Option Addr) (av : Nat) (am : List (S68)) (a1_0 : Int) (a1_1 : Int) (a1_2 : Int) (a1_3 : Int) (a1_4 : Int) (r1 : Int) (r2 : List (S51)) (r3 : List (S56)) (r4 : List (S68)) (w : World) (hs0_1 : Kd.V k51 51 w w.heap.size (fun k_ => az k_) (.slice aq ak.length ar) ak) (hr0_2 : Kd.C k56 w ax an.length an) (hc0_2 : an.length ≤ ay) (hs0_3 : Kd.V k68 68 w w.heap.size (fun k_ => aA k_) (.slice au am.length av) am) (h : portreeveref04_With.f ao ak an am a1_0 a1_1 a1_2 a1_3 a1_4 = some (r1, r2, r3, r4)) :
  Calls Try.prog 37 #[.agg #[.int .i64 ao, .slice aq ak.length ar, .slice ax an.length ay, .slice au am.length av], .agg #[.int .i64 a1_0, .int .i64 a1_1, .int .u64 a1_2, .int .u64 a1_3, .int .i64 a1_4]] w fun e w' => ∃ v1_ v2_ v3_ : Value, e = .returned (.agg #[.int .i64 r1, v1_, v2_, v3_]) ∧ Kd.V k51 51 w' w.heap.size (fun k_ => ((az k_ ∨ aA k_) ∨ w.heap.size ≤ k_) ∧ some k_ ≠ (v2_ : Value).ownBlock) v1_ r2 ∧ Kd.R k56 56 w' w.heap.size (fun k_ => (w.heap.size ≤ k_)) v2_ r3 ∧ Kd.V k68 68 w' w.heap.size (fun k_ => ((az k_ ∨ aA k_) ∨ w.heap.size ≤ k_) ∧ some k_ ≠ (v2_ : Value).ownBlock) v3_ r4 ∧ Below w.heap.size w w' := by
 have hu46 := Try.underlying46
 have hu56 := Try.underlying56
 have ae := Aside0.mk (show Kd.V k51 51 w w.heap.size (fun k_ => ((az k_ ∨ aA k_) ∨ w.heap.size ≤ k_)) (.slice aq ak.length ar) ak from Kd.V_mono hs0_1 (fun k_ hk => .inl (.inl hk)))
 have aQ := Aside0.mk hr0_2
 have HC0_2 := Aside0.mk hc0_2
 clear hr0_2 hc0_2
 have af := Aside0.mk (show Kd.V k68 68 w w.heap.size (fun k_ => ((az k_ ∨ aA k_) ∨ w.heap.size ≤ k_)) (.slice au am.length av) am from Kd.V_mono hs0_3 (fun k_ hk => .inl (.inr hk)))
 have HB := Aside0.mk (Below.refl w.heap.size w)
 have H : ((some (([] : List (S56)) : List (S56))).bind fun aG => (if aG.length + an.length < 3518437208883 then ((some (aG ++ an : List (S56))).bind fun aE => ((some (([(⟨a1_0, a1_1, a1_2, a1_3, a1_4⟩ : S56)] : List (S56)) : List (S56))).bind fun aC => (if aE.length + aC.length < 3518437208883 then (some (ao, ak, (aE ++ aC), am)) else (none)))) else (none))) = some (r1, r2, r3, r4) := h
 clear h
 obtain ⟨aG, hy279⟩ : ∃ y_ : List (S56), y_ = (([] : List (S56))) := ⟨_, rfl⟩
 replace H : (if aG.length + an.length < 3518437208883 then ((some (aG ++ an : List (S56))).bind fun aE => ((some (([(⟨a1_0, a1_1, a1_2, a1_3, a1_4⟩ : S56)] : List (S56)) : List (S56))).bind fun aC => (if aE.length + aC.length < 3518437208883 then (some (ao, ak, (aE ++ aC), am)) else (none)))) else (none)) = some (r1, r2, r3, r4) := by first | (rw [hy279]; with_reducible exact H) | (have H2_ := (Option.bind_some _ _).symm.trans H; rw [hy279]; with_reducible exact H2_) | (have H2_ := (Option.bind_some _ _).symm.trans H; with_reducible exact H2_) | with_reducible exact H | (rw [hy279]; exact H) | exact H
 have aN := Aside0.mk hy279
 clear hy279
 by_cases c3 : aG.length + an.length < 3518437208883
 ·rw [if_pos c3] at H
  have aY := Aside0.mk c3
  clear c3
  obtain ⟨aE, hy282⟩ : ∃ y_ : List (S56), y_ = (aG ++ an) := ⟨_, rfl⟩
  replace H : ((some (([(⟨a1_0, a1_1, a1_2, a1_3, a1_4⟩ : S56)] : List (S56)) : List (S56))).bind fun aC => (if aE.length + aC.length < 3518437208883 then (some (ao, ak, (aE ++ aC), am)) else (none))) = some (r1, r2, r3, r4) := by first | (rw [hy282]; with_reducible exact H) | (have H2_ := (Option.bind_some _ _).symm.trans H; rw [hy282]; with_reducible exact H2_) | (have H2_ := (Option.bind_some _ _).symm.trans H; with_reducible exact H2_) | with_reducible exact H | (rw [hy282]; exact H) | exact H
  have aT := Aside0.mk hy282
  clear hy282
  obtain ⟨aC, hy285⟩ : ∃ y_ : List (S56), y_ = (([(⟨a1_0, a1_1, a1_2, a1_3, a1_4⟩ : S56)] : List (S56))) := ⟨_, rfl⟩
  replace H : (if aE.length + aC.length < 3518437208883 then (some (ao, ak, (aE ++ aC), am)) else (none)) = some (r1, r2, r3, r4) := by first | (rw [hy285]; with_reducible exact H) | (have H2_ := (Option.bind_some _ _).symm.trans H; rw [hy285]; with_reducible exact H2_) | (have H2_ := (Option.bind_some _ _).symm.trans H; with_reducible exact H2_) | with_reducible exact H | (rw [hy285]; exact H) | exact H
  have aI := Aside0.mk hy285
  clear hy285
  by_cases c4 : aE.length + aC.length < 3518437208883
  ·rw [if_pos c4] at H
   have a5 := Aside0.mk c4
   clear c4
   obtain ⟨aP, hy288⟩ : ∃ y_ : List (S56), y_ = (aE ++ aC) := ⟨_, rfl⟩
   replace H : (some (ao, ak, aP, am)) = some (r1, r2, r3, r4) := by first | (rw [hy288]; with_reducible exact H) | (have H2_ := (Option.bind_some _ _).symm.trans H; rw [hy288]; with_reducible exact H2_) | (have H2_ := (Option.bind_some _ _).symm.trans H; with_reducible exact H2_) | with_reducible exact H | (rw [hy288]; exact H) | exact H
   have a4 := Aside0.mk hy288
   clear hy288
   simp only [Option.some.injEq, Prod.mk.injEq] at H
   obtain ⟨rfl, rfl, rfl, rfl⟩ := H
   go_enter Try.func37, Try.ntmps37
   try go_wp2_with (first | ((with_reducible refine gate_dst (N := 2) rfl ?_); refine box_event ?hg (N := 2) ?hd (cs := #[.int .i64 ao, .slice aq ak.length ar, .slice ax an.length ay, .slice au am.length av]) (t := 46) ?hr ?_; (case hd => rfl); (case hg => rfl); (case hr => first | (go_simp; done) | (go_simp; rfl)); intro ad hg w5 hbox hb; have n0_ := Aside0.mk (Kd.V_below (Kd.V_elderB (zV ae.out) ad (Nat.le_of_eq hg.symm)) hb); have n1_ := Aside0.mk (Kd.V_below (Kd.V_elderB (zV af.out) ad (Nat.le_of_eq hg.symm)) hb); have n2_ := Aside0.mk (below_step (zH HB.out) hb); have n3_ := Aside0.mk (hbox); have n4_ := Aside0.mk ((by rw [hg]; exact (below_size (zH HB.out)) : w.heap.size ≤ ad)); have n5_ := Aside0.mk ((by rw [hg]; exact (below_size (zH HB.out)) : w.heap.size ≤ ad)); clear ae; clear af; clear HB; have ae := n0_; have af := n1_; have HB := n2_; have ab := n3_; have bm := n4_; have ai := n5_; clear n0_ n1_ n2_ n3_ n4_ n5_; clear hb hbox hg) | ((with_reducible refine gate_dst (N := 3) rfl ?_); refine box_event ?hg (N := 3) ?hd (cs := #[.int .i64 a1_0, .int .i64 a1_1, .int .u64 a1_2, .int .u64 a1_3, .int .i64 a1_4]) (t := 56) ?hr ?_; (case hd => rfl); (case hg => rfl); (case hr => first | (go_simp; done) | (go_simp; rfl)); intro ac hg w6 hbox hb; have n0_ := Aside0.mk (Kd.V_below (Kd.V_elderB (zV ae.out) ac (Nat.le_of_eq hg.symm)) hb); have n1_ := Aside0.mk (Kd.V_below (Kd.V_elderB (zV af.out) ac (Nat.le_of_eq hg.symm)) hb); have n2_ := Aside0.mk (blk_below (g := ad) (o := .cells #[.int .i64 ao, .slice aq ak.length ar, .slice ax an.length ay, .slice au am.length av] 46 (0, 0)) (zB ab.out) hb); have n3_ := Aside0.mk (below_step (by repeat (first | (with_reducible first | exact HB.out | apply pA | apply pN | apply pD | refine pS ?_ ai.out) | exact HB.out)) hb); have n4_ := Aside0.mk (hbox); have n5_ := Aside0.mk ((by rw [hg]; exact (below_size (by repeat (first | (with_reducible first | exact HB.out | apply pA | apply pN | apply pD | refine pS ?_ ai.out) | exact HB.out))) : w.heap.size ≤ ac)); have n6_ := Aside0.mk ((by rw [hg]; exact (below_size (by repeat (first | (with_reducible first | exact HB.out | apply pA | apply pN | apply pD | refine pS ?_ ai.out) | exact HB.out))) : w.heap.size ≤ ac)); have n7_ := Aside0.mk ((by rw [hg]; exact Nat.ne_of_lt (blk_lt (g := ad) (o := .cells #[.int .i64 ao, .slice aq ak.length ar, .slice ax an.length ay, .slice au am.length av] 46 (0, 0)) (zB ab.out)) : ad ≠ ac)); have n8_ := Aside0.mk ((by rw [hg]; exact Nat.ne_of_gt (blk_lt (g := ad) (o := .cells #[.int .i64 ao, .slice aq ak.length ar, .slice ax an.length ay, .slice au am.length av] 46 (0, 0)) (zB ab.out)) : ac ≠ ad)); clear ae; clear af; clear ab; clear HB; have ae := n0_; have af := n1_; have ab := n2_; have HB := n3_; have aa := n4_; have bn := n5_; have aj := n6_; have aJ := n7_; have aK := n8_; clear n0_ n1_ n2_ n3_ n4_ n5_ n6_ n7_ n8_; clear hb hbox hg) | ((with_reducible refine gate_dst (N := 4) rfl ?_); refine box_event ?hg (N := 4) ?hd (cs := #[.int .i64 0, .slice none 0 0, .slice none 0 0, .slice none 0 0]) (t := 46) ?hr ?_; (case hd => rfl); (case hg => rfl); (case hr => first | (go_simp; done) | (go_simp; rfl)); intro ah hg w7 hbox hb; have n0_ := Aside0.mk (Kd.V_below (Kd.V_elderB (zV ae.out) ah (Nat.le_of_eq hg.symm)) hb); have n1_ := Aside0.mk (Kd.V_below (Kd.V_elderB (zV af.out) ah (Nat.le_of_eq hg.symm)) hb); have n2_ := Aside0.mk (blk_below (g := ad) (o := .cells #[.int .i64 ao, .slice aq ak.length ar, .slice ax an.length ay, .slice au am.length av] 46 (0, 0)) (zB ab.out) hb); have n3_ := Aside0.mk (blk_below (g := ac) (o := .cells #[.int .i64 a1_0, .int .i64 a1_1, .int .u64 a1_2, .int .u64 a1_3, .int .i64 a1_4] 56 (0, 0)) (zB aa.out) hb); have n4_ := Aside0.mk (below_step (by repeat (first | (with_reducible first | exact HB.out | apply pA | apply pN | apply pD | refine pS ?_ ai.out | refine pS ?_ aj.out) | exact HB.out)) hb); have n5_ := Aside0.mk (hbox); have n6_ := Aside0.mk ((by rw [hg]; exact (below_size (by repeat (first | (with_reducible first | exact HB.out | apply pA | apply pN | apply pD | refine pS ?_ ai.out | refine pS ?_ aj.out) | exact HB.out))) : w.heap.size ≤ ah)); have n7_ := Aside0.mk ((by rw [hg]; exact (below_size (by repeat (first | (with_reducible first | exact HB.out | apply pA | apply pN | apply pD | refine pS ?_ ai.out | refine pS ?_ aj.out) | exact HB.out))) : w.heap.size ≤ ah)); have n8_ := Aside0.mk ((by rw [hg]; exact Nat.ne_of_lt (blk_lt (g := ad) (o := .cells #[.int .i64 ao, .slice aq ak.length ar, .slice ax an.length ay, .slice au am.length av] 46 (0, 0)) (zB ab.out)) : ad ≠ ah)); have n9_ := Aside0.mk ((by rw [hg]; exact Nat.ne_of_gt (blk_lt (g := ad) (o := .cells #[.int .i64 ao, .slice aq ak.length ar, .slice ax an.length ay, .slice au am.length av] 46 (0, 0)) (zB ab.out)) : ah ≠ ad)); have n10_ := Aside0.mk ((by rw [hg]; exact Nat.ne_of_lt (blk_lt (g := ac) (o := .cells #[.int .i64 a1_0, .int .i64 a1_1, .int .u64 a1_2, .int .u64 a1_3, .int .i64 a1_4] 56 (0, 0)) (zB aa.out)) : ac ≠ ah)); have n11_ := Aside0.mk ((by rw [hg]; exact Nat.ne_of_gt (blk_lt (g := ac) (o := .cells #[.int .i64 a1_0, .int .i64 a1_1, .int .u64 a1_2, .int .u64 a1_3, .int .i64 a1_4] 56 (0, 0)) (zB aa.out)) : ah ≠ ac)); clear ae; clear af; clear ab; clear aa; clear HB; have ae := n0_; have af := n1_; have ab := n2_; have aa := n3_; have HB := n4_; have ag := n5_; have bo := n6_; have al := n7_; have aM := n8_; have aH := n9_; have aW := n10_; have aX := n11_; clear n0_ n1_ n2_ n3_ n4_ n5_ n6_ n7_ n8_ n9_ n10_ n11_; clear hb hbox hg))
   have n0_ := Aside0.mk (Kd.V_drew ae.out)
   have n1_ := Aside0.mk (Kd.V_drew af.out)
   have n2_ := Aside0.mk (qD ab.out)
   have n3_ := Aside0.mk (qD aa.out)
   have n4_ := Aside0.mk (qD ag.out)
   have n5_ := Aside0.mk (pD HB.out)
   clear ae
   clear af
   clear ab
   clear aa
   clear ag
   clear HB
   have ae := n0_
   have af := n1_
   have ab := n2_
   have aa := n3_
   have ag := n4_
   have HB := n5_
   clear n0_ n1_ n2_ n3_ n4_ n5_
   refine start_ (n := 9) (S := fun w' => w'.cell? ⟨ad, 0, none⟩ = some (.int .i64 ao) ∧ w'.cell? ⟨ad, 1, none⟩ = some (.slice aq ak.length ar) ∧ w'.cell? ⟨ad, 2, none⟩ = some (.slice ax an.length ay) ∧ w'.cell? ⟨ad, 3, none⟩ = some (.slice au am.length av) ∧ w'.cell? ⟨ac, 0, none⟩ = some (.int .i64 a1_0) ∧ w'.cell? ⟨ac, 1, none⟩ = some (.int .i64 a1_1) ∧ w'.cell? ⟨ac, 2, none⟩ = some (.int .u64 a1_2) ∧ w'.cell? ⟨ac, 3, none⟩ = some (.int .u64 a1_3) ∧ w'.cell? ⟨ac, 4, none⟩ = some (.int .i64 a1_4)) (ds := [8]) #[false, false, false, false, false, false, false, false, false] (by kernel_rfl) rfl rfl ⟨(blk_cell ab.out 0).trans rfl, (blk_cell ab.out 1).trans rfl, (blk_cell ab.out 2).trans rfl, (blk_cell ab.out 3).trans rfl, (blk_cell aa.out 0).trans rfl, (blk_cell aa.out 1).trans rfl, (blk_cell aa.out 2).trans rfl, (blk_cell aa.out 3).trans rfl, (blk_cell aa.out 4).trans rfl⟩ (fun hHeld => ?_); refine with_tabW portreeveref04_With.tab1 portreeveref04_With.bits1 (fun HT_ HW_ => ?_)
   generalize w7.drew = w8 at ae af ab aa ag HB hHeld ⊢
   refine pure_ (i := 1) (N := some 6) (v := ?_) (a' := ?_) #[false, true, false, false, false, false, false, false, false] rfl rfl (any_of HT_.out (by kernel_rfl)) (fun _ _ _ h => h) (Or.inl ⟨by rfl, ?_⟩) ?_ ?_
   rotate_left
   ·intro w'
    go_simp
    with_reducible rfl
   rotate_left
   ·simp only [Act.put, sT, s0, s1, i64_w, i32_w]
    rfl
   refine take_ (i := 2) (N := some 7) (v := ?_) (a' := ?_) #[false, true, true, false, false, false, false, false, false] rfl rfl (take_ofW HT_.out HW_.out (by kernel_rfl)) (fun _ _ _ h => h) (Or.inl ⟨by rfl, ?_⟩) hHeld ?_ ?_
   rotate_left
   ·rintro w' ⟨s0, s1, s2, s3, s4, s5, s6, s7, s8⟩
    go_simp
    with_reducible rfl
   rotate_left
   ·simp only [Act.put, sT, s0, s1, i64_w, i32_w]
    rfl
   refine take_ (i := 4) (N := some 9) (v := ?_) (a' := ?_) #[false, true, true, false, true, false, false, false, false] rfl rfl (take_ofW HT_.out HW_.out (by kernel_rfl)) (fun _ _ _ h => h) (Or.inl ⟨by rfl, ?_⟩) hHeld ?_ ?_
   rotate_left
   ·rintro w' ⟨s0, s1, s2, s3, s4, s5, s6, s7, s8⟩
    go_simp
    with_reducible rfl
   rotate_left
   ·simp only [Act.put, sT, s0, s1, i64_w, i32_w]
    rfl
   refine join_ (σ := Value × Value × Value) 3 #[true, true, true, true, true, true, false, false, false] (fun s_ => [(5, s_.1), (8, s_.2.1), (10, s_.2.2)]) (fun s_ w' => (w'.cell? ⟨ad, 0, none⟩ = some (.int .i64 ao) ∧ w'.cell? ⟨ad, 1, none⟩ = some (.slice aq ak.length ar) ∧ w'.cell? ⟨ad, 2, none⟩ = some (.slice ax an.length ay) ∧ w'.cell? ⟨ad, 3, none⟩ = some (.slice au am.length av) ∧ w'.cell? ⟨ac, 0, none⟩ = some (.int .i64 a1_0) ∧ w'.cell? ⟨ac, 1, none⟩ = some (.int .i64 a1_1) ∧ w'.cell? ⟨ac, 2, none⟩ = some (.int .u64 a1_2) ∧ w'.cell? ⟨ac, 3, none⟩ = some (.int .u64 a1_3) ∧ w'.cell? ⟨ac, 4, none⟩ = some (.int .i64 a1_4)) ∧ (Kd.V k51 51 w' w.heap.size (fun k_ => ((az k_ ∨ aA k_) ∨ w.heap.size ≤ k_) ∧ some k_ ≠ (s_.2.1 : Value).ownBlock ∧ some k_ ≠ (s_.2.2 : Value).ownBlock ∧ k_ ≠ ad ∧ k_ ≠ ac ∧ k_ ≠ ah) (.slice aq ak.length ar) ak) ∧ (Kd.V k68 68 w' w.heap.size (fun k_ => ((az k_ ∨ aA k_) ∨ w.heap.size ≤ k_) ∧ some k_ ≠ (s_.2.1 : Value).ownBlock ∧ some k_ ≠ (s_.2.2 : Value).ownBlock ∧ k_ ≠ ad ∧ k_ ≠ ac ∧ k_ ≠ ah) (.slice au am.length av) am) ∧ (Kd.R k56 56 w' w.heap.size (fun k_ => (w.heap.size ≤ k_) ∧ some k_ ≠ (s_.2.2 : Value).ownBlock ∧ k_ ≠ ac) s_.2.1 aE) ∧ (Kd.R k56 56 w' w.heap.size (fun k_ => (w.heap.size ≤ k_) ∧ some k_ ≠ (s_.2.1 : Value).ownBlock ∧ k_ ≠ ac) s_.2.2 aC) ∧ (w'.heap[ad]? = some (.cells #[.int .i64 ao, .slice aq ak.length ar, .slice ax an.length ay, .slice au am.length av] 46 (0, 0))) ∧ (w'.heap[ac]? = some (.cells #[.int .i64 a1_0, .int .i64 a1_1, .int .u64 a1_2, .int .u64 a1_3, .int .i64 a1_4] 56 (0, 0))) ∧ (w'.heap[ah]? = some (.cells #[.int .i64 0, .slice none 0 0, .slice none 0 0, .slice none 0 0] 46 (0, 0))) ∧ (Below w.heap.size w w')) ?_ ?_
   rotate_left
   ·intro hCont
    refine two_ (i := 0) (j := 5) (Ni := some 5) (Nj := some 10) #[true, true, true, false, true, false, false, false, false] #[false, true, true, false, true, true, false, false, false] rfl rfl rfl rfl (two_of HT_.out (by kernel_rfl)) (by decide) (by decide) (fun K hK => ?_) (fun K hK => ?_)
    ·skip
     refine Kd.R_lit_step k56 _ 56 ?hg (N := 5) ?hd (xs := ([] : List (S56))) (inner := []) (ok := fun _ => True) (okp := fun _ => True) ?hr ?hp (fun _ hk => hk) trivial (Below.refl _ _) (Nat.le_refl _) (by simp) ?_; (case hd => rfl); (case hg => rfl); (case hr => first | (go_simp; done) | (go_simp; rfl)); (case hp => exact (Reps.none _ _))
     intro v280 w9 ho10 hb hg_ hnew_
     clear hg_ hnew_
     (first | rw [← aN.out] at ho10 | (simp only [Int.reduceToNat] at ho10; rw [← aN.out] at ho10))
     have n0_ := Aside0.mk (Kd.V_elder' (zV ae.out) (Kd.R_base ho10) hb)
     have n1_ := Aside0.mk (Kd.V_elder' (zV af.out) (Kd.R_base ho10) hb)
     have n2_ := Aside0.mk (Kd.R_lower (Kd.R_newB (Kd.R_newM (M := fun k_ => (w.heap.size ≤ k_)) ho10 (below_size (by repeat (first | (with_reducible first | exact HB.out | apply pA | apply pN | apply pD | refine pS ?_ ai.out | refine pS ?_ aj.out | refine pS ?_ al.out) | exact HB.out))) (fun k_ h_ => h_)) (g := ac) (o := .cells #[.int .i64 a1_0, .int .i64 a1_1, .int .u64 a1_2, .int .u64 a1_3, .int .i64 a1_4] 56 (0, 0)) (zB aa.out)) (below_size (by repeat (first | (with_reducible first | exact HB.out | apply pA | apply pN | apply pD | refine pS ?_ ai.out | refine pS ?_ aj.out | refine pS ?_ al.out) | exact HB.out))))
     have n3_ := Aside0.mk (blk_below (g := ad) (o := .cells #[.int .i64 ao, .slice aq ak.length ar, .slice ax an.length ay, .slice au am.length av] 46 (0, 0)) (zB ab.out) hb)
     have n4_ := Aside0.mk (blk_below (g := ac) (o := .cells #[.int .i64 a1_0, .int .i64 a1_1, .int .u64 a1_2, .int .u64 a1_3, .int .i64 a1_4] 56 (0, 0)) (zB aa.out) hb)
     have n5_ := Aside0.mk (blk_below (g := ah) (o := .cells #[.int .i64 0, .slice none 0 0, .slice none 0 0, .slice none 0 0] 46 (0, 0)) (zB ag.out) hb)
     have n6_ := Aside0.mk (below_step (by repeat (first | (with_reducible first | exact HB.out | apply pA | apply pN | apply pD | refine pS ?_ ai.out | refine pS ?_ aj.out | refine pS ?_ al.out) | exact HB.out)) hb)
     clear ae
     clear af
     clear ab
     clear aa
     clear ag
     clear HB
     have ae := n0_
     have af := n1_
     have aw := n2_
     have ab := n3_
     have aa := n4_
     have ag := n5_
     have HB := n6_
     clear n0_ n1_ n2_ n3_ n4_ n5_ n6_
     clear hb ho10
     refine hK.out _ _ ⟨(blk_cell ab.out 0).trans rfl, (blk_cell ab.out 1).trans rfl, (blk_cell ab.out 2).trans rfl, (blk_cell ab.out 3).trans rfl, (blk_cell aa.out 0).trans rfl, (blk_cell aa.out 1).trans rfl, (blk_cell aa.out 2).trans rfl, (blk_cell aa.out 3).trans rfl, (blk_cell aa.out 4).trans rfl⟩ (fun hHeld => ?_)
     clear hK K
     refine norm_ (a' := ?_) ?_ ?_
     rotate_left
     ·show Act.put _ (some 5) _ = _
      simp only [Act.put, sT, s0, s1, i64_w, i32_w]
      rfl
     refine two_ (i := 3) (j := 5) (Ni := some 8) (Nj := some 10) #[true, true, true, true, true, false, false, false, false] #[true, true, true, false, true, true, false, false, false] rfl rfl rfl rfl (two_of HT_.out (by kernel_rfl)) (by decide) (by decide) (fun K hK => ?_) (fun K hK => ?_)
     ·skip
      refine Kd.R_append_rows_step k56 (w0 := w) w.heap.size (by rfl) (.tmp 5) (.tmp 7) 43 56 (.agg #[(.int .i64 0), (.int .i64 0), (.int .u64 0), (.int .u64 0), (.int .i64 0)]) 40 rfl Try.underlying43 info56 rfl (by decide) (by omega) v280 aG an _ _ _ (fun k_ => (w.heap.size ≤ k_) ∧ k_ ≠ ac) (fun _ => False) rfl rfl ?aO ?aR (fun _ _ h => h) (fun _ h => h.elim) ?aF ?aB ?aS ?aL ?_
      (case aR => repeat (first | exact (Kd.C_below aQ.out HB.out) | (with_reducible refine Kd.C_alloc ?_ _) | (with_reducible refine Kd.C_drewN ?_ _) | (with_reducible refine Kd.C_drew ?_)))
      (case aB => exact (by repeat (first | (with_reducible first | exact HB.out | apply pA | apply pN | apply pD | refine pS ?_ ai.out | refine pS ?_ aj.out | refine pS ?_ al.out) | exact HB.out)))
      (case aF => exact (fun k_ hk => ⟨(Nat.le_trans (below_size (by repeat (first | (with_reducible first | exact HB.out | apply pA | apply pN | apply pD | refine pS ?_ ai.out | refine pS ?_ aj.out | refine pS ?_ al.out) | exact HB.out))) hk), Kd.freshB (g := ac) (o := .cells #[.int .i64 a1_0, .int .i64 a1_1, .int .u64 a1_2, .int .u64 a1_3, .int .i64 a1_4] 56 (0, 0)) (zB aa.out) k_ hk⟩))
      (case aO => exact (zR (Kd.R_mono aw.out (fun _ hk => ⟨hk.1.1, hk.2⟩))))
      (case aS => exact (below_size (by repeat (first | (with_reducible first | exact HB.out | apply pA | apply pN | apply pD | refine pS ?_ ai.out | refine pS ?_ aj.out | refine pS ?_ al.out) | exact HB.out))))
      (case aL => have := aY.out; omega)
      intro v283 w11 ho hb hg hat
      rw [← aT.out] at ho
      have n0_ := Aside0.mk (Kd.V_afterv (ok := (fun k_ => ((az k_ ∨ aA k_) ∨ w.heap.size ≤ k_) ∧ k_ ≠ ad ∧ k_ ≠ ac ∧ k_ ≠ ah)) (zV (Kd.V_mono ae.out (fun _ hk => ⟨⟨hk.1.1.1.1, ⟨hk.1.1.1.2, ⟨hk.1.1.2, hk.1.2⟩⟩⟩, hk.2⟩))) hg hat)
      have n1_ := Aside0.mk (Kd.V_afterv (ok := (fun k_ => ((az k_ ∨ aA k_) ∨ w.heap.size ≤ k_) ∧ k_ ≠ ad ∧ k_ ≠ ac ∧ k_ ≠ ah)) (zV (Kd.V_mono af.out (fun _ hk => ⟨⟨hk.1.1.1.1, ⟨hk.1.1.1.2, ⟨hk.1.1.2, hk.1.2⟩⟩⟩, hk.2⟩))) hg hat)
      have n2_ := Aside0.mk (blk_grown (g := ad) (o := .cells #[.int .i64 ao, .slice aq ak.length ar, .slice ax an.length ay, .slice au am.length av] 46 (0, 0)) (zB ab.out) hg (Kd.R_ne aw.out ab.out (by decide)))
      have n3_ := Aside0.mk (blk_grown (g := ac) (o := .cells #[.int .i64 a1_0, .int .i64 a1_1, .int .u64 a1_2, .int .u64 a1_3, .int .i64 a1_4] 56 (0, 0)) (zB aa.out) hg (Kd.R_away aw.out (fun _ hk => hk.2)))
      have n4_ := Aside0.mk (blk_grown (g := ah) (o := .cells #[.int .i64 0, .slice none 0 0, .slice none 0 0, .slice none 0 0] 46 (0, 0)) (zB ag.out) hg (Kd.R_ne aw.out ag.out (by decide)))
      have n5_ := Aside0.mk (hb)
      have n6_ := Aside0.mk (ho)
      clear ae
      clear af
      clear ab
      clear aa
      clear ag
      clear HB
      clear aw
      have ae := n0_
      have af := n1_
      have ab := n2_
      have aa := n3_
      have ag := n4_
      have HB := n5_
      have aD := n6_
      clear n0_ n1_ n2_ n3_ n4_ n5_ n6_
      clear ho hb hg hat
      refine hK.out _ _ ⟨(blk_cell ab.out 0).trans rfl, (blk_cell ab.out 1).trans rfl, (blk_cell ab.out 2).trans rfl, (blk_cell ab.out 3).trans rfl, (blk_cell aa.out 0).trans rfl, (blk_cell aa.out 1).trans rfl, (blk_cell aa.out 2).trans rfl, (blk_cell aa.out 3).trans rfl, (blk_cell aa.out 4).trans rfl⟩ (fun hHeld => ?_)
      clear hK K
      refine norm_ (a' := ?_) ?_ ?_
      rotate_left
      ·show Act.put _ (some 8) _ = _
       simp only [Act.put, sT, s0, s1, i64_w, i32_w]
       rfl
      refine one_ (i := 5) (N := some 10) #[true, true, true, true, true, true, false, false, false] rfl rfl (one_of HT_.out (by kernel_rfl)) (by decide) (fun K hK => ?_)
      refine Kd.R_lit_step k56 _ 56 ?hg (N := 10) ?hd (xs := ([(⟨a1_0, a1_1, a1_2, a1_3, a1_4⟩ : S56)] : List (S56))) (inner := [.int .i64 a1_0, .int .i64 a1_1, .int .u64 a1_2, .int .u64 a1_3, .int .i64 a1_4]) (ok := fun _ => True) (okp := fun _ => True) ?hr ?hp (fun _ hk => hk) trivial (Below.refl _ _) (Nat.le_refl _) (by simp) ?_; (case hd => rfl); (case hg => rfl); (case hr => first | (go_simp; done) | (go_simp; rfl)); (case hp => exact (Reps.c5 (show Kd.M k56 _ _ _ (⟨a1_0, a1_1, a1_2, a1_3, a1_4⟩ : S56) [.int .i64 a1_0, .int .i64 a1_1, .int .u64 a1_2, .int .u64 a1_3, .int .i64 a1_4] from (k56_mkM _ _ _ (⟨a1_0, a1_1, a1_2, a1_3, a1_4⟩ : S56) )) (Reps.none _ _)))
      intro v286 w12 ho13 hb hg_ hnew_
      clear hg_ hnew_
      (first | rw [← aI.out] at ho13 | (simp only [Int.reduceToNat] at ho13; rw [← aI.out] at ho13))
      have n0_ := Aside0.mk (Kd.V_elder' (zV ae.out) (Kd.R_base ho13) hb)
      have n1_ := Aside0.mk (Kd.V_elder' (zV af.out) (Kd.R_base ho13) hb)
      have n2_ := Aside0.mk (Kd.R_elder' (zR aD.out) (Kd.R_base ho13) hb)
      have n3_ := Aside0.mk (Kd.R_lower (Kd.R_newB (Kd.R_new' (Kd.R_newM (M := fun k_ => (w.heap.size ≤ k_)) ho13 (below_size (by repeat (first | (with_reducible first | exact HB.out | apply pA | apply pN | apply pD | refine pS ?_ ai.out | refine pS ?_ aj.out | refine pS ?_ al.out) | exact HB.out))) (fun k_ h_ => h_)) (Kd.R_lt (zR aD.out))) (g := ac) (o := .cells #[.int .i64 a1_0, .int .i64 a1_1, .int .u64 a1_2, .int .u64 a1_3, .int .i64 a1_4] 56 (0, 0)) (zB aa.out)) (below_size (by repeat (first | (with_reducible first | exact HB.out | apply pA | apply pN | apply pD | refine pS ?_ ai.out | refine pS ?_ aj.out | refine pS ?_ al.out) | exact HB.out))))
      have n4_ := Aside0.mk (blk_below (g := ad) (o := .cells #[.int .i64 ao, .slice aq ak.length ar, .slice ax an.length ay, .slice au am.length av] 46 (0, 0)) (zB ab.out) hb)
      have n5_ := Aside0.mk (blk_below (g := ac) (o := .cells #[.int .i64 a1_0, .int .i64 a1_1, .int .u64 a1_2, .int .u64 a1_3, .int .i64 a1_4] 56 (0, 0)) (zB aa.out) hb)
      have n6_ := Aside0.mk (blk_below (g := ah) (o := .cells #[.int .i64 0, .slice none 0 0, .slice none 0 0, .slice none 0 0] 46 (0, 0)) (zB ag.out) hb)
      have n7_ := Aside0.mk (below_step (by repeat (first | (with_reducible first | exact HB.out | apply pA | apply pN | apply pD | refine pS ?_ ai.out | refine pS ?_ aj.out | refine pS ?_ al.out) | exact HB.out)) hb)
      clear ae
      clear af
      clear aD
      clear ab
      clear aa
      clear ag
      clear HB
      have ae := n0_
      have af := n1_
      have aD := n2_
      have ap := n3_
      have ab := n4_
      have aa := n5_
      have ag := n6_
      have HB := n7_
      clear n0_ n1_ n2_ n3_ n4_ n5_ n6_ n7_
      clear hb ho13
      refine hK.out _ _ ⟨(blk_cell ab.out 0).trans rfl, (blk_cell ab.out 1).trans rfl, (blk_cell ab.out 2).trans rfl, (blk_cell ab.out 3).trans rfl, (blk_cell aa.out 0).trans rfl, (blk_cell aa.out 1).trans rfl, (blk_cell aa.out 2).trans rfl, (blk_cell aa.out 3).trans rfl, (blk_cell aa.out 4).trans rfl⟩ (fun hHeld => ?_)
      clear hK K
      refine norm_ (a' := ?_) ?_ ?_
      rotate_left
      ·show Act.put _ (some 10) _ = _
       simp only [Act.put, sT, s0, s1, i64_w, i32_w]
       rfl
      exact norm_ (by simp only [putAll, Act.put, sT, s0, s1]) (hCont (v280, v283, v286) _ ⟨hHeld, (zV (Kd.V_mono ae.out (fun _ hk => ⟨hk.1.1.1, ⟨hk.1.2, ⟨hk.2, ⟨hk.1.1.2.1, ⟨hk.1.1.2.2.1, hk.1.1.2.2.2⟩⟩⟩⟩⟩))), (zV (Kd.V_mono af.out (fun _ hk => ⟨hk.1.1.1, ⟨hk.1.2, ⟨hk.2, ⟨hk.1.1.2.1, ⟨hk.1.1.2.2.1, hk.1.1.2.2.2⟩⟩⟩⟩⟩))), (zR (Kd.R_mono aD.out (fun _ hk => ⟨hk.1.1, ⟨hk.2, hk.1.2⟩⟩))), (zR (Kd.R_mono ap.out (fun _ hk => ⟨hk.1.1.1, ⟨hk.1.2, hk.2⟩⟩))), (zB ab.out), (zB aa.out), (zB ag.out), (by repeat (first | (with_reducible first | exact HB.out | apply pA | apply pN | apply pD | refine pS ?_ ai.out | refine pS ?_ aj.out | refine pS ?_ al.out) | exact HB.out))⟩)
     ·skip
      refine Kd.R_lit_step k56 _ 56 ?hg (N := 10) ?hd (xs := ([(⟨a1_0, a1_1, a1_2, a1_3, a1_4⟩ : S56)] : List (S56))) (inner := [.int .i64 a1_0, .int .i64 a1_1, .int .u64 a1_2, .int .u64 a1_3, .int .i64 a1_4]) (ok := fun _ => True) (okp := fun _ => True) ?hr ?hp (fun _ hk => hk) trivial (Below.refl _ _) (Nat.le_refl _) (by simp) ?_; (case hd => rfl); (case hg => rfl); (case hr => first | (go_simp; done) | (go_simp; rfl)); (case hp => exact (Reps.c5 (show Kd.M k56 _ _ _ (⟨a1_0, a1_1, a1_2, a1_3, a1_4⟩ : S56) [.int .i64 a1_0, .int .i64 a1_1, .int .u64 a1_2, .int .u64 a1_3, .int .i64 a1_4] from (k56_mkM _ _ _ (⟨a1_0, a1_1, a1_2, a1_3, a1_4⟩ : S56) )) (Reps.none _ _)))
      intro v286 w11 ho12 hb hg_ hnew_
      clear hg_ hnew_
      (first | rw [← aI.out] at ho12 | (simp only [Int.reduceToNat] at ho12; rw [← aI.out] at ho12))
      have n0_ := Aside0.mk (Kd.V_elder' (zV ae.out) (Kd.R_base ho12) hb)
      have n1_ := Aside0.mk (Kd.V_elder' (zV af.out) (Kd.R_base ho12) hb)
      have n2_ := Aside0.mk (Kd.R_elder' (zR aw.out) (Kd.R_base ho12) hb)
      have n3_ := Aside0.mk (Kd.R_lower (Kd.R_newB (Kd.R_new' (Kd.R_newM (M := fun k_ => (w.heap.size ≤ k_)) ho12 (below_size (by repeat (first | (with_reducible first | exact HB.out | apply pA | apply pN | apply pD | refine pS ?_ ai.out | refine pS ?_ aj.out | refine pS ?_ al.out) | exact HB.out))) (fun k_ h_ => h_)) (Kd.R_lt (zR aw.out))) (g := ac) (o := .cells #[.int .i64 a1_0, .int .i64 a1_1, .int .u64 a1_2, .int .u64 a1_3, .int .i64 a1_4] 56 (0, 0)) (zB aa.out)) (below_size (by repeat (first | (with_reducible first | exact HB.out | apply pA | apply pN | apply pD | refine pS ?_ ai.out | refine pS ?_ aj.out | refine pS ?_ al.out) | exact HB.out))))
      have n4_ := Aside0.mk (blk_below (g := ad) (o := .cells #[.int .i64 ao, .slice aq ak.length ar, .slice ax an.length ay, .slice au am.length av] 46 (0, 0)) (zB ab.out) hb)
      have n5_ := Aside0.mk (blk_below (g := ac) (o := .cells #[.int .i64 a1_0, .int .i64 a1_1, .int .u64 a1_2, .int .u64 a1_3, .int .i64 a1_4] 56 (0, 0)) (zB aa.out) hb)
      have n6_ := Aside0.mk (blk_below (g := ah) (o := .cells #[.int .i64 0, .slice none 0 0, .slice none 0 0, .slice none 0 0] 46 (0, 0)) (zB ag.out) hb)
      have n7_ := Aside0.mk (below_step (by repeat (first | (with_reducible first | exact HB.out | apply pA | apply pN | apply pD | refine pS ?_ ai.out | refine pS ?_ aj.out | refine pS ?_ al.out) | exact HB.out)) hb)
      clear ae
      clear af
      clear aw
      clear ab
      clear aa
      clear ag
      clear HB
      have ae := n0_
      have af := n1_
      have aw := n2_
      have ap := n3_
      have ab := n4_
      have aa := n5_
      have ag := n6_
      have HB := n7_
      clear n0_ n1_ n2_ n3_ n4_ n5_ n6_ n7_
      clear hb ho12
      refine hK.out _ _ ⟨(blk_cell ab.out 0).trans rfl, (blk_cell ab.out 1).trans rfl, (blk_cell ab.out 2).trans rfl, (blk_cell ab.out 3).trans rfl, (blk_cell aa.out 0).trans rfl, (blk_cell aa.out 1).trans rfl, (blk_cell aa.out 2).trans rfl, (blk_cell aa.out 3).trans rfl, (blk_cell aa.out 4).trans rfl⟩ (fun hHeld => ?_)
      clear hK K
      refine norm_ (a' := ?_) ?_ ?_
      rotate_left
      ·show Act.put _ (some 10) _ = _
       simp only [Act.put, sT, s0, s1, i64_w, i32_w]
       rfl
      refine one_ (i := 3) (N := some 8) #[true, true, true, true, true, true, false, false, false] rfl rfl (one_of HT_.out (by kernel_rfl)) (by decide) (fun K hK => ?_)
      refine Kd.R_append_rows_step k56 (w0 := w) w.heap.size (by rfl) (.tmp 5) (.tmp 7) 43 56 (.agg #[(.int .i64 0), (.int .i64 0), (.int .u64 0), (.int .u64 0), (.int .i64 0)]) 40 rfl Try.underlying43 info56 rfl (by decide) (by omega) v280 aG an _ _ _ (fun k_ => (w.heap.size ≤ k_) ∧ some k_ ≠ (v286 : Value).ownBlock ∧ k_ ≠ ac) (fun _ => False) rfl rfl ?aO ?aR (fun _ _ h => h) (fun _ h => h.elim) ?aF ?aB ?aS ?aL ?_
      (case aR => repeat (first | exact (Kd.C_below aQ.out HB.out) | (with_reducible refine Kd.C_alloc ?_ _) | (with_reducible refine Kd.C_drewN ?_ _) | (with_reducible refine Kd.C_drew ?_)))
      (case aB => exact (by repeat (first | (with_reducible first | exact HB.out | apply pA | apply pN | apply pD | refine pS ?_ ai.out | refine pS ?_ aj.out | refine pS ?_ al.out) | exact HB.out)))
      (case aF => exact (fun k_ hk => ⟨(Nat.le_trans (below_size (by repeat (first | (with_reducible first | exact HB.out | apply pA | apply pN | apply pD | refine pS ?_ ai.out | refine pS ?_ aj.out | refine pS ?_ al.out) | exact HB.out))) hk), Kd.fresh' (Kd.R_lt (zR ap.out)) k_ hk, Kd.freshB (g := ac) (o := .cells #[.int .i64 a1_0, .int .i64 a1_1, .int .u64 a1_2, .int .u64 a1_3, .int .i64 a1_4] 56 (0, 0)) (zB aa.out) k_ hk⟩))
      (case aO => exact (zR (Kd.R_mono aw.out (fun _ hk => ⟨hk.1.1.1, ⟨hk.2, hk.1.2⟩⟩))))
      (case aS => exact (below_size (by repeat (first | (with_reducible first | exact HB.out | apply pA | apply pN | apply pD | refine pS ?_ ai.out | refine pS ?_ aj.out | refine pS ?_ al.out) | exact HB.out))))
      (case aL => have := aY.out; omega)
      intro v283 w13 ho hb hg hat
      rw [← aT.out] at ho
      have n0_ := Aside0.mk (Kd.V_afterv (ok := (fun k_ => ((az k_ ∨ aA k_) ∨ w.heap.size ≤ k_) ∧ some k_ ≠ (v286 : Value).ownBlock ∧ k_ ≠ ad ∧ k_ ≠ ac ∧ k_ ≠ ah)) (zV (Kd.V_mono ae.out (fun _ hk => ⟨⟨hk.1.1.1.1.1, ⟨hk.2, ⟨hk.1.1.1.1.2, ⟨hk.1.1.1.2, hk.1.1.2⟩⟩⟩⟩, hk.1.2⟩))) hg hat)
      have n1_ := Aside0.mk (Kd.V_afterv (ok := (fun k_ => ((az k_ ∨ aA k_) ∨ w.heap.size ≤ k_) ∧ some k_ ≠ (v286 : Value).ownBlock ∧ k_ ≠ ad ∧ k_ ≠ ac ∧ k_ ≠ ah)) (zV (Kd.V_mono af.out (fun _ hk => ⟨⟨hk.1.1.1.1.1, ⟨hk.2, ⟨hk.1.1.1.1.2, ⟨hk.1.1.1.2, hk.1.1.2⟩⟩⟩⟩, hk.1.2⟩))) hg hat)
      have n2_ := Aside0.mk (blk_grown (g := ad) (o := .cells #[.int .i64 ao, .slice aq ak.length ar, .slice ax an.length ay, .slice au am.length av] 46 (0, 0)) (zB ab.out) hg (Kd.R_ne aw.out ab.out (by decide)))
      have n3_ := Aside0.mk (blk_grown (g := ac) (o := .cells #[.int .i64 a1_0, .int .i64 a1_1, .int .u64 a1_2, .int .u64 a1_3, .int .i64 a1_4] 56 (0, 0)) (zB aa.out) hg (Kd.R_away aw.out (fun _ hk => hk.1.2)))
      have n4_ := Aside0.mk (blk_grown (g := ah) (o := .cells #[.int .i64 0, .slice none 0 0, .slice none 0 0, .slice none 0 0] 46 (0, 0)) (zB ag.out) hg (Kd.R_ne aw.out ag.out (by decide)))
      have n5_ := Aside0.mk (Kd.R_after (ok := (fun k_ => (w.heap.size ≤ k_) ∧ k_ ≠ ac)) (zR (Kd.R_mono ap.out (fun _ hk => ⟨⟨hk.1.1.1, hk.2⟩, hk.1.2⟩))) hg hat)
      have n6_ := Aside0.mk (hb)
      have n7_ := Aside0.mk (ho)
      clear ae
      clear af
      clear ab
      clear aa
      clear ag
      clear ap
      clear HB
      clear aw
      have ae := n0_
      have af := n1_
      have ab := n2_
      have aa := n3_
      have ag := n4_
      have ap := n5_
      have HB := n6_
      have aD := n7_
      clear n0_ n1_ n2_ n3_ n4_ n5_ n6_ n7_
      clear ho hb hg hat
      refine hK.out _ _ ⟨(blk_cell ab.out 0).trans rfl, (blk_cell ab.out 1).trans rfl, (blk_cell ab.out 2).trans rfl, (blk_cell ab.out 3).trans rfl, (blk_cell aa.out 0).trans rfl, (blk_cell aa.out 1).trans rfl, (blk_cell aa.out 2).trans rfl, (blk_cell aa.out 3).trans rfl, (blk_cell aa.out 4).trans rfl⟩ (fun hHeld => ?_)
      clear hK K
      refine norm_ (a' := ?_) ?_ ?_
      rotate_left
      ·show Act.put _ (some 8) _ = _
       simp only [Act.put, sT, s0, s1, i64_w, i32_w]
       rfl
      exact norm_ (by simp only [putAll, Act.put, sT, s0, s1]) (hCont (v280, v283, v286) _ ⟨hHeld, (zV (Kd.V_mono ae.out (fun _ hk => ⟨hk.1.1, ⟨hk.2, ⟨hk.1.2.1, ⟨hk.1.2.2.1, ⟨hk.1.2.2.2.1, hk.1.2.2.2.2⟩⟩⟩⟩⟩))), (zV (Kd.V_mono af.out (fun _ hk => ⟨hk.1.1, ⟨hk.2, ⟨hk.1.2.1, ⟨hk.1.2.2.1, ⟨hk.1.2.2.2.1, hk.1.2.2.2.2⟩⟩⟩⟩⟩))), (zR aD.out), (zR (Kd.R_mono ap.out (fun _ hk => ⟨hk.1.1, ⟨hk.2, hk.1.2⟩⟩))), (zB ab.out), (zB aa.out), (zB ag.out), (by repeat (first | (with_reducible first | exact HB.out | apply pA | apply pN | apply pD | refine pS ?_ ai.out | refine pS ?_ aj.out | refine pS ?_ al.out) | exact HB.out))⟩)
    ·skip
     refine Kd.R_lit_step k56 _ 56 ?hg (N := 10) ?hd (xs := ([(⟨a1_0, a1_1, a1_2, a1_3, a1_4⟩ : S56)] : List (S56))) (inner := [.int .i64 a1_0, .int .i64 a1_1, .int .u64 a1_2, .int .u64 a1_3, .int .i64 a1_4]) (ok := fun _ => True) (okp := fun _ => True) ?hr ?hp (fun _ hk => hk) trivial (Below.refl _ _) (Nat.le_refl _) (by simp) ?_; (case hd => rfl); (case hg => rfl); (case hr => first | (go_simp; done) | (go_simp; rfl)); (case hp => exact (Reps.c5 (show Kd.M k56 _ _ _ (⟨a1_0, a1_1, a1_2, a1_3, a1_4⟩ : S56) [.int .i64 a1_0, .int .i64 a1_1, .int .u64 a1_2, .int .u64 a1_3, .int .i64 a1_4] from (k56_mkM _ _ _ (⟨a1_0, a1_1, a1_2, a1_3, a1_4⟩ : S56) )) (Reps.none _ _)))
     intro v286 w9 ho10 hb hg_ hnew_
     clear hg_ hnew_
     (first | rw [← aI.out] at ho10 | (simp only [Int.reduceToNat] at ho10; rw [← aI.out] at ho10))
     have n0_ := Aside0.mk (Kd.V_elder' (zV ae.out) (Kd.R_base ho10) hb)
     have n1_ := Aside0.mk (Kd.V_elder' (zV af.out) (Kd.R_base ho10) hb)
     have n2_ := Aside0.mk (Kd.R_lower (Kd.R_newB (Kd.R_newM (M := fun k_ => (w.heap.size ≤ k_)) ho10 (below_size (by repeat (first | (with_reducible first | exact HB.out | apply pA | apply pN | apply pD | refine pS ?_ ai.out | refine pS ?_ aj.out | refine pS ?_ al.out) | exact HB.out))) (fun k_ h_ => h_)) (g := ac) (o := .cells #[.int .i64 a1_0, .int .i64 a1_1, .int .u64 a1_2, .int .u64 a1_3, .int .i64 a1_4] 56 (0, 0)) (zB aa.out)) (below_size (by repeat (first | (with_reducible first | exact HB.out | apply pA | apply pN | apply pD | refine pS ?_ ai.out | refine pS ?_ aj.out | refine pS ?_ al.out) | exact HB.out))))
     have n3_ := Aside0.mk (blk_below (g := ad) (o := .cells #[.int .i64 ao, .slice aq ak.length ar, .slice ax an.length ay, .slice au am.length av] 46 (0, 0)) (zB ab.out) hb)
     have n4_ := Aside0.mk (blk_below (g := ac) (o := .cells #[.int .i64 a1_0, .int .i64 a1_1, .int .u64 a1_2, .int .u64 a1_3, .int .i64 a1_4] 56 (0, 0)) (zB aa.out) hb)
     have n5_ := Aside0.mk (blk_below (g := ah) (o := .cells #[.int .i64 0, .slice none 0 0, .slice none 0 0, .slice none 0 0] 46 (0, 0)) (zB ag.out) hb)
     have n6_ := Aside0.mk (below_step (by repeat (first | (with_reducible first | exact HB.out | apply pA | apply pN | apply pD | refine pS ?_ ai.out | refine pS ?_ aj.out | refine pS ?_ al.out) | exact HB.out)) hb)
     clear ae
     clear af
     clear ab
     clear aa
     clear ag
     clear HB
     have ae := n0_
     have af := n1_
     have ap := n2_
     have ab := n3_
     have aa := n4_
     have ag := n5_
     have HB := n6_
     clear n0_ n1_ n2_ n3_ n4_ n5_ n6_
     clear hb ho10
     refine hK.out _ _ ⟨(blk_cell ab.out 0).trans rfl, (blk_cell ab.out 1).trans rfl, (blk_cell ab.out 2).trans rfl, (blk_cell ab.out 3).trans rfl, (blk_cell aa.out 0).trans rfl, (blk_cell aa.out 1).trans rfl, (blk_cell aa.out 2).trans rfl, (blk_cell aa.out 3).trans rfl, (blk_cell aa.out 4).trans rfl⟩ (fun hHeld => ?_)
     clear hK K
     refine norm_ (a' := ?_) ?_ ?_
     rotate_left
     ·show Act.put _ (some 10) _ = _
      simp only [Act.put, sT, s0, s1, i64_w, i32_w]
      rfl
     refine one_ (i := 0) (N := some 5) #[true, true, true, false, true, true, false, false, false] rfl rfl (one_of HT_.out (by kernel_rfl)) (by decide) (fun K hK => ?_)
     refine Kd.R_lit_step k56 _ 56 ?hg (N := 5) ?hd (xs := ([] : List (S56))) (inner := []) (ok := fun _ => True) (okp := fun _ => True) ?hr ?hp (fun _ hk => hk) trivial (Below.refl _ _) (Nat.le_refl _) (by simp) ?_; (case hd => rfl); (case hg => rfl); (case hr => first | (go_simp; done) | (go_simp; rfl)); (case hp => exact (Reps.none _ _))
     intro v280 w11 ho12 hb hg_ hnew_
     clear hg_ hnew_
     (first | rw [← aN.out] at ho12 | (simp only [Int.reduceToNat] at ho12; rw [← aN.out] at ho12))
     have n0_ := Aside0.mk (Kd.V_elder' (zV ae.out) (Kd.R_base ho12) hb)
     have n1_ := Aside0.mk (Kd.V_elder' (zV af.out) (Kd.R_base ho12) hb)
     have n2_ := Aside0.mk (Kd.R_elder' (zR ap.out) (Kd.R_base ho12) hb)
     have n3_ := Aside0.mk (Kd.R_lower (Kd.R_newB (Kd.R_new' (Kd.R_newM (M := fun k_ => (w.heap.size ≤ k_)) ho12 (below_size (by repeat (first | (with_reducible first | exact HB.out | apply pA | apply pN | apply pD | refine pS ?_ ai.out | refine pS ?_ aj.out | refine pS ?_ al.out) | exact HB.out))) (fun k_ h_ => h_)) (Kd.R_lt (zR ap.out))) (g := ac) (o := .cells #[.int .i64 a1_0, .int .i64 a1_1, .int .u64 a1_2, .int .u64 a1_3, .int .i64 a1_4] 56 (0, 0)) (zB aa.out)) (below_size (by repeat (first | (with_reducible first | exact HB.out | apply pA | apply pN | apply pD | refine pS ?_ ai.out | refine pS ?_ aj.out | refine pS ?_ al.out) | exact HB.out))))
     have n4_ := Aside0.mk (blk_below (g := ad) (o := .cells #[.int .i64 ao, .slice aq ak.length ar, .slice ax an.length ay, .slice au am.length av] 46 (0, 0)) (zB ab.out) hb)
     have n5_ := Aside0.mk (blk_below (g := ac) (o := .cells #[.int .i64 a1_0, .int .i64 a1_1, .int .u64 a1_2, .int .u64 a1_3, .int .i64 a1_4] 56 (0, 0)) (zB aa.out) hb)
     have n6_ := Aside0.mk (blk_below (g := ah) (o := .cells #[.int .i64 0, .slice none 0 0, .slice none 0 0, .slice none 0 0] 46 (0, 0)) (zB ag.out) hb)
     have n7_ := Aside0.mk (below_step (by repeat (first | (with_reducible first | exact HB.out | apply pA | apply pN | apply pD | refine pS ?_ ai.out | refine pS ?_ aj.out | refine pS ?_ al.out) | exact HB.out)) hb)
     clear ae
     clear af
     clear ap
     clear ab
     clear aa
     clear ag
     clear HB
     have ae := n0_
     have af := n1_
     have ap := n2_
     have aw := n3_
     have ab := n4_
     have aa := n5_
     have ag := n6_
     have HB := n7_
     clear n0_ n1_ n2_ n3_ n4_ n5_ n6_ n7_
     clear hb ho12
     refine hK.out _ _ ⟨(blk_cell ab.out 0).trans rfl, (blk_cell ab.out 1).trans rfl, (blk_cell ab.out 2).trans rfl, (blk_cell ab.out 3).trans rfl, (blk_cell aa.out 0).trans rfl, (blk_cell aa.out 1).trans rfl, (blk_cell aa.out 2).trans rfl, (blk_cell aa.out 3).trans rfl, (blk_cell aa.out 4).trans rfl⟩ (fun hHeld => ?_)
     clear hK K
     refine norm_ (a' := ?_) ?_ ?_
     rotate_left
     ·show Act.put _ (some 5) _ = _
      simp only [Act.put, sT, s0, s1, i64_w, i32_w]
      rfl
     refine one_ (i := 3) (N := some 8) #[true, true, true, true, true, true, false, false, false] rfl rfl (one_of HT_.out (by kernel_rfl)) (by decide) (fun K hK => ?_)
     refine Kd.R_append_rows_step k56 (w0 := w) w.heap.size (by rfl) (.tmp 5) (.tmp 7) 43 56 (.agg #[(.int .i64 0), (.int .i64 0), (.int .u64 0), (.int .u64 0), (.int .i64 0)]) 40 rfl Try.underlying43 info56 rfl (by decide) (by omega) v280 aG an _ _ _ (fun k_ => (w.heap.size ≤ k_) ∧ some k_ ≠ (v286 : Value).ownBlock ∧ k_ ≠ ac) (fun _ => False) rfl rfl ?aO ?aR (fun _ _ h => h) (fun _ h => h.elim) ?aF ?aB ?aS ?aL ?_
     (case aR => repeat (first | exact (Kd.C_below aQ.out HB.out) | (with_reducible refine Kd.C_alloc ?_ _) | (with_reducible refine Kd.C_drewN ?_ _) | (with_reducible refine Kd.C_drew ?_)))
     (case aB => exact (by repeat (first | (with_reducible first | exact HB.out | apply pA | apply pN | apply pD | refine pS ?_ ai.out | refine pS ?_ aj.out | refine pS ?_ al.out) | exact HB.out)))
     (case aF => exact (fun k_ hk => ⟨(Nat.le_trans (below_size (by repeat (first | (with_reducible first | exact HB.out | apply pA | apply pN | apply pD | refine pS ?_ ai.out | refine pS ?_ aj.out | refine pS ?_ al.out) | exact HB.out))) hk), Kd.fresh' (Kd.R_lt (zR ap.out)) k_ hk, Kd.freshB (g := ac) (o := .cells #[.int .i64 a1_0, .int .i64 a1_1, .int .u64 a1_2, .int .u64 a1_3, .int .i64 a1_4] 56 (0, 0)) (zB aa.out) k_ hk⟩))
     (case aO => exact (zR (Kd.R_mono aw.out (fun _ hk => ⟨hk.1.1.1, ⟨hk.1.2, hk.2⟩⟩))))
     (case aS => exact (below_size (by repeat (first | (with_reducible first | exact HB.out | apply pA | apply pN | apply pD | refine pS ?_ ai.out | refine pS ?_ aj.out | refine pS ?_ al.out) | exact HB.out))))
     (case aL => have := aY.out; omega)
     intro v283 w13 ho hb hg hat
     rw [← aT.out] at ho
     have n0_ := Aside0.mk (Kd.V_afterv (ok := (fun k_ => ((az k_ ∨ aA k_) ∨ w.heap.size ≤ k_) ∧ some k_ ≠ (v286 : Value).ownBlock ∧ k_ ≠ ad ∧ k_ ≠ ac ∧ k_ ≠ ah)) (zV (Kd.V_mono ae.out (fun _ hk => ⟨⟨hk.1.1.1.1.1, ⟨hk.1.2, ⟨hk.1.1.1.1.2, ⟨hk.1.1.1.2, hk.1.1.2⟩⟩⟩⟩, hk.2⟩))) hg hat)
     have n1_ := Aside0.mk (Kd.V_afterv (ok := (fun k_ => ((az k_ ∨ aA k_) ∨ w.heap.size ≤ k_) ∧ some k_ ≠ (v286 : Value).ownBlock ∧ k_ ≠ ad ∧ k_ ≠ ac ∧ k_ ≠ ah)) (zV (Kd.V_mono af.out (fun _ hk => ⟨⟨hk.1.1.1.1.1, ⟨hk.1.2, ⟨hk.1.1.1.1.2, ⟨hk.1.1.1.2, hk.1.1.2⟩⟩⟩⟩, hk.2⟩))) hg hat)
     have n2_ := Aside0.mk (blk_grown (g := ad) (o := .cells #[.int .i64 ao, .slice aq ak.length ar, .slice ax an.length ay, .slice au am.length av] 46 (0, 0)) (zB ab.out) hg (Kd.R_ne aw.out ab.out (by decide)))
     have n3_ := Aside0.mk (blk_grown (g := ac) (o := .cells #[.int .i64 a1_0, .int .i64 a1_1, .int .u64 a1_2, .int .u64 a1_3, .int .i64 a1_4] 56 (0, 0)) (zB aa.out) hg (Kd.R_away aw.out (fun _ hk => hk.2)))
     have n4_ := Aside0.mk (blk_grown (g := ah) (o := .cells #[.int .i64 0, .slice none 0 0, .slice none 0 0, .slice none 0 0] 46 (0, 0)) (zB ag.out) hg (Kd.R_ne aw.out ag.out (by decide)))
     have n5_ := Aside0.mk (Kd.R_after (ok := (fun k_ => (w.heap.size ≤ k_) ∧ k_ ≠ ac)) (zR (Kd.R_mono ap.out (fun _ hk => ⟨⟨hk.1.1.1, hk.1.2⟩, hk.2⟩))) hg hat)
     have n6_ := Aside0.mk (hb)
     have n7_ := Aside0.mk (ho)
     clear ae
     clear af
     clear ab
     clear aa
     clear ag
     clear ap
     clear HB
     clear aw
     have ae := n0_
     have af := n1_
     have ab := n2_
     have aa := n3_
     have ag := n4_
     have ap := n5_
     have HB := n6_
     have aD := n7_
     clear n0_ n1_ n2_ n3_ n4_ n5_ n6_ n7_
     clear ho hb hg hat
     refine hK.out _ _ ⟨(blk_cell ab.out 0).trans rfl, (blk_cell ab.out 1).trans rfl, (blk_cell ab.out 2).trans rfl, (blk_cell ab.out 3).trans rfl, (blk_cell aa.out 0).trans rfl, (blk_cell aa.out 1).trans rfl, (blk_cell aa.out 2).trans rfl, (blk_cell aa.out 3).trans rfl, (blk_cell aa.out 4).trans rfl⟩ (fun hHeld => ?_)
     clear hK K
     refine norm_ (a' := ?_) ?_ ?_
     rotate_left
     ·show Act.put _ (some 8) _ = _
      simp only [Act.put, sT, s0, s1, i64_w, i32_w]
      rfl
     exact norm_ (by simp only [putAll, Act.put, sT, s0, s1]) (hCont (v280, v283, v286) _ ⟨hHeld, (zV (Kd.V_mono ae.out (fun _ hk => ⟨hk.1.1, ⟨hk.2, ⟨hk.1.2.1, ⟨hk.1.2.2.1, ⟨hk.1.2.2.2.1, hk.1.2.2.2.2⟩⟩⟩⟩⟩))), (zV (Kd.V_mono af.out (fun _ hk => ⟨hk.1.1, ⟨hk.2, ⟨hk.1.2.1, ⟨hk.1.2.2.1, ⟨hk.1.2.2.2.1, hk.1.2.2.2.2⟩⟩⟩⟩⟩))), (zR aD.out), (zR (Kd.R_mono ap.out (fun _ hk => ⟨hk.1.1, ⟨hk.2, hk.1.2⟩⟩))), (zB ab.out), (zB aa.out), (zB ag.out), (by repeat (first | (with_reducible first | exact HB.out | apply pA | apply pN | apply pD | refine pS ?_ ai.out | refine pS ?_ aj.out | refine pS ?_ al.out) | exact HB.out))⟩)
   rintro ⟨v280, v283, v286⟩ w14 ⟨hS_, h0_, h1_, h2_, h3_, h4_, h5_, h6_, h7_⟩
   have n0_ : Aside0 (Kd.V k51 51 w14 w.heap.size (fun k_ => ((az k_ ∨ aA k_) ∨ w.heap.size ≤ k_) ∧ some k_ ≠ (v283 : Value).ownBlock ∧ some k_ ≠ (v286 : Value).ownBlock ∧ k_ ≠ ad ∧ k_ ≠ ac ∧ k_ ≠ ah) (.slice aq ak.length ar) ak) := ⟨h0_⟩
   have n1_ : Aside0 (Kd.V k68 68 w14 w.heap.size (fun k_ => ((az k_ ∨ aA k_) ∨ w.heap.size ≤ k_) ∧ some k_ ≠ (v283 : Value).ownBlock ∧ some k_ ≠ (v286 : Value).ownBlock ∧ k_ ≠ ad ∧ k_ ≠ ac ∧ k_ ≠ ah) (.slice au am.length av) am) := ⟨h1_⟩
   have n2_ : Aside0 (Kd.R k56 56 w14 w.heap.size (fun k_ => (w.heap.size ≤ k_) ∧ some k_ ≠ (v286 : Value).ownBlock ∧ k_ ≠ ac) v283 aE) := ⟨h2_⟩
   have n3_ : Aside0 (Kd.R k56 56 w14 w.heap.size (fun k_ => (w.heap.size ≤ k_) ∧ some k_ ≠ (v283 : Value).ownBlock ∧ k_ ≠ ac) v286 aC) := ⟨h3_⟩
   have n4_ : Aside0 (w14.heap[ad]? = some (.cells #[.int .i64 ao, .slice aq ak.length ar, .slice ax an.length ay, .slice au am.length av] 46 (0, 0))) := ⟨h4_⟩
   have n5_ : Aside0 (w14.heap[ac]? = some (.cells #[.int .i64 a1_0, .int .i64 a1_1, .int .u64 a1_2, .int .u64 a1_3, .int .i64 a1_4] 56 (0, 0))) := ⟨h5_⟩
   have n6_ : Aside0 (w14.heap[ah]? = some (.cells #[.int .i64 0, .slice none 0 0, .slice none 0 0, .slice none 0 0] 46 (0, 0))) := ⟨h6_⟩
   have n7_ : Aside0 (Below w.heap.size w w14) := ⟨h7_⟩
   clear ae
   clear af
   clear ab
   clear aa
   clear ag
   clear HB
   clear h0_ h1_ h2_ h3_ h4_ h5_ h6_ h7_
   have ae := n0_
   have af := n1_
   have aD := n2_
   have ap := n3_
   have ab := n4_
   have aa := n5_
   have ag := n6_
   have HB := n7_
   clear n0_ n1_ n2_ n3_ n4_ n5_ n6_ n7_
   have hHeld : w14.cell? ⟨ad, 0, none⟩ = some (.int .i64 ao) ∧ w14.cell? ⟨ad, 1, none⟩ = some (.slice aq ak.length ar) ∧ w14.cell? ⟨ad, 2, none⟩ = some (.slice ax an.length ay) ∧ w14.cell? ⟨ad, 3, none⟩ = some (.slice au am.length av) ∧ w14.cell? ⟨ac, 0, none⟩ = some (.int .i64 a1_0) ∧ w14.cell? ⟨ac, 1, none⟩ = some (.int .i64 a1_1) ∧ w14.cell? ⟨ac, 2, none⟩ = some (.int .u64 a1_2) ∧ w14.cell? ⟨ac, 3, none⟩ = some (.int .u64 a1_3) ∧ w14.cell? ⟨ac, 4, none⟩ = some (.int .i64 a1_4) := hS_
   obtain ⟨aZ, a0, a2⟩ := Kd.R_slice ap.out
   (first | subst a2 | (injection a2 with f1_ f2_ f3_; have f4_ := f1_.symm; have f5_ := f3_.symm; clear f1_ f2_ f3_; subst f4_; subst f5_))
   refine norm_ (a' := ?_) ?_ ?_
   rotate_left
   ·simp only [putAll, Act.put, sT, s0, s1]
    rfl
   refine one_ (i := 6) (N := some 11) #[true, true, true, true, true, true, true, false, false] rfl rfl (one_of HT_.out (by kernel_rfl)) (by decide) (fun K hK => ?_)
   refine Kd.R_append_rows_step k56 (w0 := w) w.heap.size (by rfl) (.tmp 8) (.tmp 10) 43 56 (.agg #[(.int .i64 0), (.int .i64 0), (.int .u64 0), (.int .u64 0), (.int .i64 0)]) 40 rfl Try.underlying43 info56 rfl (by decide) (by omega) v283 aE aC _ _ _ (fun k_ => (w.heap.size ≤ k_) ∧ some k_ ≠ (.slice aZ aC.length a0 : Value).ownBlock ∧ k_ ≠ ac) (fun _ => False) rfl rfl ?aO ?aR (fun _ _ h => h) (fun _ h => h.elim) ?aF ?aB ?aS ?aL ?_
   (case aR => repeat (first | exact (Kd.R_reads' ap.out).2.2 | (with_reducible refine Kd.C_alloc ?_ _) | (with_reducible refine Kd.C_drewN ?_ _) | (with_reducible refine Kd.C_drew ?_)))
   (case aB => exact (by repeat (first | (with_reducible first | exact HB.out | apply pA | apply pN | apply pD | refine pS ?_ ai.out | refine pS ?_ aj.out | refine pS ?_ al.out) | exact HB.out)))
   (case aF => exact (fun k_ hk => ⟨(Nat.le_trans (below_size (by repeat (first | (with_reducible first | exact HB.out | apply pA | apply pN | apply pD | refine pS ?_ ai.out | refine pS ?_ aj.out | refine pS ?_ al.out) | exact HB.out))) hk), Kd.fresh' (Kd.R_lt (zR ap.out)) k_ hk, Kd.freshB (g := ac) (o := .cells #[.int .i64 a1_0, .int .i64 a1_1, .int .u64 a1_2, .int .u64 a1_3, .int .i64 a1_4] 56 (0, 0)) (zB aa.out) k_ hk⟩))
   (case aO => exact (zR aD.out))
   (case aS => exact (below_size (by repeat (first | (with_reducible first | exact HB.out | apply pA | apply pN | apply pD | refine pS ?_ ai.out | refine pS ?_ aj.out | refine pS ?_ al.out) | exact HB.out))))
   (case aL => have := a5.out; omega)
   intro v289 w15 ho hb hg hat
   rw [← a4.out] at ho
   have n0_ := Aside0.mk (Kd.V_afterv (ok := (fun k_ => ((az k_ ∨ aA k_) ∨ w.heap.size ≤ k_) ∧ some k_ ≠ (.slice aZ aC.length a0 : Value).ownBlock ∧ k_ ≠ ad ∧ k_ ≠ ac ∧ k_ ≠ ah)) (zV (Kd.V_mono ae.out (fun _ hk => ⟨⟨hk.1, ⟨hk.2.2.1, ⟨hk.2.2.2.1, ⟨hk.2.2.2.2.1, hk.2.2.2.2.2⟩⟩⟩⟩, hk.2.1⟩))) hg hat)
   have n1_ := Aside0.mk (Kd.V_afterv (ok := (fun k_ => ((az k_ ∨ aA k_) ∨ w.heap.size ≤ k_) ∧ some k_ ≠ (.slice aZ aC.length a0 : Value).ownBlock ∧ k_ ≠ ad ∧ k_ ≠ ac ∧ k_ ≠ ah)) (zV (Kd.V_mono af.out (fun _ hk => ⟨⟨hk.1, ⟨hk.2.2.1, ⟨hk.2.2.2.1, ⟨hk.2.2.2.2.1, hk.2.2.2.2.2⟩⟩⟩⟩, hk.2.1⟩))) hg hat)
   have n2_ := Aside0.mk (blk_grown (g := ad) (o := .cells #[.int .i64 ao, .slice aq ak.length ar, .slice ax an.length ay, .slice au am.length av] 46 (0, 0)) (zB ab.out) hg (Kd.R_ne aD.out ab.out (by decide)))
   have n3_ := Aside0.mk (blk_grown (g := ac) (o := .cells #[.int .i64 a1_0, .int .i64 a1_1, .int .u64 a1_2, .int .u64 a1_3, .int .i64 a1_4] 56 (0, 0)) (zB aa.out) hg (Kd.R_away aD.out (fun _ hk => hk.2.2)))
   have n4_ := Aside0.mk (blk_grown (g := ah) (o := .cells #[.int .i64 0, .slice none 0 0, .slice none 0 0, .slice none 0 0] 46 (0, 0)) (zB ag.out) hg (Kd.R_ne aD.out ag.out (by decide)))
   have n5_ := Aside0.mk (Kd.R_after (ok := (fun k_ => (w.heap.size ≤ k_) ∧ k_ ≠ ac)) (zR (Kd.R_mono ap.out (fun _ hk => ⟨⟨hk.1, hk.2.2⟩, hk.2.1⟩))) hg hat)
   have n6_ := Aside0.mk (hb)
   have n7_ := Aside0.mk (ho)
   clear ae
   clear af
   clear ab
   clear aa
   clear ag
   clear ap
   clear HB
   clear aD
   have ae := n0_
   have af := n1_
   have ab := n2_
   have aa := n3_
   have ag := n4_
   have ap := n5_
   have HB := n6_
   have a1 := n7_
   clear n0_ n1_ n2_ n3_ n4_ n5_ n6_ n7_
   clear ho hb hg hat
   obtain ⟨aU, aV, a3⟩ := Kd.R_slice a1.out
   (first | subst a3 | (injection a3 with f1_ f2_ f3_; have f4_ := f1_.symm; have f5_ := f3_.symm; clear f1_ f2_ f3_; subst f4_; subst f5_))
   refine hK.out _ _ ⟨(blk_cell ab.out 0).trans rfl, (blk_cell ab.out 1).trans rfl, (blk_cell ab.out 2).trans rfl, (blk_cell ab.out 3).trans rfl, (blk_cell aa.out 0).trans rfl, (blk_cell aa.out 1).trans rfl, (blk_cell aa.out 2).trans rfl, (blk_cell aa.out 3).trans rfl, (blk_cell aa.out 4).trans rfl⟩ (fun hHeld => ?_)
   clear hK K
   refine norm_ (a' := ?_) ?_ ?_
   rotate_left
   ·show Act.put _ (some 11) _ = _
    simp only [Act.put, sT, s0, s1, i64_w, i32_w]
    rfl
   refine pure_ (i := 7) (N := some 12) (v := ?_) (a' := ?_) #[true, true, true, true, true, true, true, true, false] rfl rfl (any_of HT_.out (by kernel_rfl)) (fun _ _ _ h => h) (Or.inl ⟨by rfl, ?_⟩) ?_ ?_
   rotate_left
   ·intro w'
    go_simp
    with_reducible rfl
   rotate_left
   ·simp only [Act.put, sT, s0, s1, i64_w, i32_w]
    rfl
   refine last_ (i := 8) (N := none) #[true, true, true, true, true, true, true, true, true] rfl rfl (one_of HT_.out (by kernel_rfl)) (by decide) (fun K hK => ?_)
   have hs18 : w15.cell? ⟨ad, 2, none⟩ = some (.slice ax an.length ay) := (blk_cell ab.out 2).trans rfl
   have hfs18 := blk_frozen ab.out 2
   have hns18_1 := aK.out
   have hns18_2 := aH.out
   have hms18_1 := aJ.out
   have hms18_2 := aM.out
   refine skip_ (w1 := ?_) (by rfl) rfl ?_ ?_
   rotate_left
   ·go_simp
    rfl
   refine hK.out _ _ ?_
   clear hK K
   refine done_ (done_of HT_.out (by kernel_rfl)) ?_
   have bp := aJ.out
   have bq := aK.out
   have br := aM.out
   have bs := aH.out
   obtain ⟨a6, a7, a8, a9, ba, bb, bc, bd⟩ := bk4 ab.out
   have bt := aX.out
   have bu := aW.out
   obtain ⟨be, bf, bg, bh, bi, bj, bk, bl⟩ := bk4 ag.out
   try go_wp2
   refine bodyPost_ret (results_cell_row rfl _ _ ah 46 #[.int .i64 ao, .slice aq ak.length ar, .slice aU aP.length aV, .slice au am.length av] (0, 0) _ rfl (by (with_reducible repeat (first | refine qN ?_ _ | refine qD ?_ | refine qA ?_ _)); refine blk_put (cs := #[.int .i64 ao, .slice aq ak.length ar, .slice aU aP.length aV, .slice none 0 0]) ?_ 3 _ rfl; (with_reducible repeat (first | refine qN ?_ _ | refine qD ?_ | refine qA ?_ _)); refine blk_put (cs := #[.int .i64 ao, .slice aq ak.length ar, .slice none 0 0, .slice none 0 0]) ?_ 2 _ rfl; (with_reducible repeat (first | refine qN ?_ _ | refine qD ?_ | refine qA ?_ _)); refine blk_put (cs := #[.int .i64 ao, .slice none 0 0, .slice none 0 0, .slice none 0 0]) ?_ 1 _ rfl; (with_reducible repeat (first | refine qN ?_ _ | refine qD ?_ | refine qA ?_ _)); refine blk_put (cs := #[.int .i64 0, .slice none 0 0, .slice none 0 0, .slice none 0 0]) ?_ 0 _ rfl; (with_reducible repeat (first | refine qN ?_ _ | refine qD ?_ | refine qA ?_ _)); refine blk_far ?_ aH.out _; (with_reducible repeat (first | refine qN ?_ _ | refine qD ?_ | refine qA ?_ _)); exact ag.out) Try.underlying46 rfl (by kernel_rfl)) rfl ?_
   exact ⟨_, _, _, by first | rfl | (simp [errW_none, errW_some] <;> rfl) | (simp [*, errW_none, errW_some] <;> rfl), (fV2 ae.out (fun k_ hk => (⟨hk, hk.1.2.2.1⟩ : _ ∧ k_ ≠ ad)) (fun k_ hk => (⟨hk, hk.1.1.2.2.2.2⟩ : _ ∧ k_ ≠ ah)) (fun _ hk => ⟨hk.1.1.1.1, hk.1.1.2⟩)), zR (Kd.R_mono (Kd.R_far (p := ⟨ah, 3, none⟩) (Kd.R_far (p := ⟨ah, 2, none⟩) (Kd.R_far (p := ⟨ah, 1, none⟩) (Kd.R_far (p := ⟨ah, 0, none⟩) (Kd.R_far (p := ⟨ad, 2, none⟩) (Kd.R_types (Kd.R_types a1.out ab.out (by decide)) ag.out (by decide)) (fun _ hk => hk.1.2) (.slice aU aP.length aV)) (fun _ hk => hk.2) (.int .i64 ao)) (fun _ hk => hk.2) (.slice aq ak.length ar)) (fun _ hk => hk.2) (.slice aU aP.length aV)) (fun _ hk => hk.2) (.slice au am.length av)) (fun _ hk => hk.1.1.1)), (fV2 af.out (fun k_ hk => (⟨hk, hk.1.2.2.1⟩ : _ ∧ k_ ≠ ad)) (fun k_ hk => (⟨hk, hk.1.1.2.2.2.2⟩ : _ ∧ k_ ≠ ah)) (fun _ hk => ⟨hk.1.1.1.1, hk.1.1.2⟩)), by repeat (first | (with_reducible first | exact HB.out | apply pA | apply pN | apply pD | refine pS ?_ ai.out | refine pS ?_ aj.out | refine pS ?_ al.out) | exact HB.out)⟩
  ·rw [if_neg c4] at H
   exact absurd H (by simp)
 ·rw [if_neg c3] at H
  exact absurd H (by simp)

end Go.Proofs.Ytlimlbhhbjaljaa.Q

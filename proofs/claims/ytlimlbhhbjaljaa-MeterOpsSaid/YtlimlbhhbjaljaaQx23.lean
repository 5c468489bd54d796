-- written by this session's own program (wip/tools/myprint.py), over the kit's print
import Derived.Test.YtlimlbhhbjaljaaQx0
import Derived.Test.YtlimlbhhbjaljaaQx18
import Derived.Test.YtlimlbhhbjaljaaQx21
namespace Go.Proofs.Ytlimlbhhbjaljaa.Q
open Go.RowKit Go.Proofs.YtlimlbhhbjaljaaW.PrintWords Go.Proofs.YtlimlbhhbjaljaaW.PrintLast Go.Proofs.YtlimlbhhbjaljaaW.PrintMore
open Go.Proofs.YtlimlbhhbjaljaaV
attribute [local go_sem] max2_int min2_int max_two min_two max_three min_three max_four min_four   -- for this text's walks alone
set_option linter.unusedVariables false
set_option linter.unusedSimpArgs false

/-! ### portreeveref04_Apply: function 23 -/
mutual
def portreeveref04_Apply.j0 : Nat → Int → Bool → Int → List (S51) → List (S56) → List (S68) → Int → Int → Int → Int → ByteArray → Int → Int → Int → Int → Option (Int × (List (S51)) × (List (S56)) × (List (S68)) × Int)
 | 0, _, _, _, _, _, _, _, _, _, _, _, _, _, _, _ => none
 | k + 1, x15, x23, x413000, x413001, x413002, x413003, x414000, x414001, x414002, x414003, x414004, x414005, x414006, x414007, x414008 => if x23 = true then ((portreeveref04_counted.f k x413000 x413001 x413002 x413003 x414000 x414001 x414002 x414003 x414004 x414005 x414006 x414007 x414008).bind fun bt416 => (some (bt416.1, bt416.2.1, bt416.2.2.1, bt416.2.2.2.1, bt416.2.2.2.2))) else (if x15 = 4 then (portreeveref04_Apply.j1 k (x15 == 4)) else (portreeveref04_Apply.j1 k (x15 == 5)))
def portreeveref04_Apply.j1 : Nat → Bool → Option (Int × (List (S51)) × (List (S56)) × (List (S68)) × Int)
 | 0, _ => none
 | k + 1, x31 => if x31 = true then (none) else (none)
end
def portreeveref04_Apply.f (k : Nat) (a0_0 : Int) (l0_1 : List (S51)) (l0_2 : List (S56)) (l0_3 : List (S68)) (a1_0 : Int) (a1_1 : Int) (a1_2 : Int) (a1_3 : Int) (a1_4 : ByteArray) (a1_5 : Int) (a1_6 : Int) (a1_7 : Int) (a1_8 : Int) : Option (Int × (List (S51)) × (List (S56)) × (List (S68)) × Int) := (portreeveref04_May.f k a1_0 a1_1 a1_2 a1_3 a1_4 a1_5 a1_6 a1_7 a1_8).bind fun t415 => (if t415 = true then (if a1_0 = 1 then (none) else (if a1_0 = 2 then (portreeveref04_Apply.j0 k a1_0 (a1_0 == 2) a0_0 l0_1 l0_2 l0_3 a1_0 a1_1 a1_2 a1_3 a1_4 a1_5 a1_6 a1_7 a1_8) else (portreeveref04_Apply.j0 k a1_0 (a1_0 == 3) a0_0 l0_1 l0_2 l0_3 a1_0 a1_1 a1_2 a1_3 a1_4 a1_5 a1_6 a1_7 a1_8))) else (some (a0_0, l0_1, l0_2, l0_3, 1)))
theorem portreeveref04_Apply.mono_l : ∀ k, (∀ y0 y1 y2 y3 y4 y5 y6 y7 y8 y9 y10 y11 y12 y13 y14, LeO (portreeveref04_Apply.j0 k y0 y1 y2 y3 y4 y5 y6 y7 y8 y9 y10 y11 y12 y13 y14) (portreeveref04_Apply.j0 (k + 1) y0 y1 y2 y3 y4 y5 y6 y7 y8 y9 y10 y11 y12 y13 y14)) ∧ (∀ y0, LeO (portreeveref04_Apply.j1 k y0) (portreeveref04_Apply.j1 (k + 1) y0))
 | 0 => ⟨fun _ _ _ _ _ _ _ _ _ _ _ _ _ _ _ r h => by simp [portreeveref04_Apply.j0] at h, fun _ r h => by simp [portreeveref04_Apply.j1] at h⟩
 | k + 1 => by
  obtain ⟨ih0, ih1⟩ := portreeveref04_Apply.mono_l k
  refine ⟨?_, ?_⟩
  ·intro y0 y1 y2 y3 y4 y5 y6 y7 y8 y9 y10 y11 y12 y13 y14
   unfold portreeveref04_Apply.j0
   repeat' first
   | (with_reducible exact ih0 _ _ _ _ _ _ _ _ _ _ _ _ _ _ _)
   | (with_reducible exact ih1 _)
   | (with_reducible exact portreeveref04_May.mono _ _ _ _ _ _ _ _ _ _)
   | (with_reducible exact portreeveref04_counted.mono _ _ _ _ _ _ _ _ _ _ _ _ _ _)
   | (with_reducible exact LeO.refl _)
   | (with_reducible exact LeO.none _)
   | (with_reducible refine LeO.ite ?_ ?_)
   | (with_reducible refine LeO.bind ?_ (fun _ => ?_))
   | exact ih0 _ _ _ _ _ _ _ _ _ _ _ _ _ _ _
   | exact ih1 _
   | exact portreeveref04_May.mono _ _ _ _ _ _ _ _ _ _
   | exact portreeveref04_counted.mono _ _ _ _ _ _ _ _ _ _ _ _ _ _
   | exact LeO.none _
   | refine LeO.ite ?_ ?_
   | refine LeO.bind ?_ (fun _ => ?_)
  ·intro y0
   unfold portreeveref04_Apply.j1
   repeat' first
   | (with_reducible exact ih0 _ _ _ _ _ _ _ _ _ _ _ _ _ _ _)
   | (with_reducible exact ih1 _)
   | (with_reducible exact portreeveref04_May.mono _ _ _ _ _ _ _ _ _ _)
   | (with_reducible exact portreeveref04_counted.mono _ _ _ _ _ _ _ _ _ _ _ _ _ _)
   | (with_reducible exact LeO.refl _)
   | (with_reducible exact LeO.none _)
   | (with_reducible refine LeO.ite ?_ ?_)
   | (with_reducible refine LeO.bind ?_ (fun _ => ?_))
   | exact ih0 _ _ _ _ _ _ _ _ _ _ _ _ _ _ _
   | exact ih1 _
   | exact portreeveref04_May.mono _ _ _ _ _ _ _ _ _ _
   | exact portreeveref04_counted.mono _ _ _ _ _ _ _ _ _ _ _ _ _ _
   | exact LeO.none _
   | refine LeO.ite ?_ ?_
   | refine LeO.bind ?_ (fun _ => ?_)
theorem portreeveref04_Apply.mono : ∀ a0 a1 a2 a3 a4 a5 a6 a7 a8 a9 a10 a11 a12 k, LeO (portreeveref04_Apply.f k a0 a1 a2 a3 a4 a5 a6 a7 a8 a9 a10 a11 a12) (portreeveref04_Apply.f (k + 1) a0 a1 a2 a3 a4 a5 a6 a7 a8 a9 a10 a11 a12) := by
 intro a0 a1 a2 a3 a4 a5 a6 a7 a8 a9 a10 a11 a12 k
 obtain ⟨ih0, ih1⟩ := portreeveref04_Apply.mono_l k
 unfold portreeveref04_Apply.f
 repeat' first
   | (with_reducible exact ih0 _ _ _ _ _ _ _ _ _ _ _ _ _ _ _)
   | (with_reducible exact ih1 _)
   | (with_reducible exact portreeveref04_May.mono _ _ _ _ _ _ _ _ _ _)
   | (with_reducible exact portreeveref04_counted.mono _ _ _ _ _ _ _ _ _ _ _ _ _ _)
   | (with_reducible exact LeO.refl _)
   | (with_reducible exact LeO.none _)
   | (with_reducible refine LeO.ite ?_ ?_)
   | (with_reducible refine LeO.bind ?_ (fun _ => ?_))
   | exact ih0 _ _ _ _ _ _ _ _ _ _ _ _ _ _ _
   | exact ih1 _
   | exact portreeveref04_May.mono _ _ _ _ _ _ _ _ _ _
   | exact portreeveref04_counted.mono _ _ _ _ _ _ _ _ _ _ _ _ _ _
   | exact LeO.none _
   | refine LeO.ite ?_ ?_
   | refine LeO.bind ?_ (fun _ => ?_)
set_option maxHeartbeats 8000000 in
set_option maxRecDepth 100000 in
theorem portreeveref04_Apply.calls (k : Nat) (ai : Int) (ax : Nat → Prop) (an : Option Addr) (ao : Nat) (ae : List (S51)) (ay : Nat → Prop) (ap : Option Addr) (aq : Nat) (af : List (S56)) (az : Nat → Prop) (ar : Option Addr) (au : Nat) (ag : List (S68)) (a1_0 : Int) (a1_1 : Int) (a1_2 : Int) (a1_3 : Int) (a1_4 : ByteArray) (a1_5 : Int) (a1_6 : Int) (a1_7 : Int) (a1_8 : Int) (r1 : Int) (r2 : List (S51)) (r3 : List (S56)) (r4 : List (S68)) (r5 : Int) (w : World) (hs0_1 : Kd.V k51 51 w w.heap.size (fun k_ => ax k_) (.slice an ae.length ao) ae) (hs0_2 : Kd.V k56 56 w w.heap.size (fun k_ => ay k_) (.slice ap af.length aq) af) (hs0_3 : Kd.V k68 68 w w.heap.size (fun k_ => az k_) (.slice ar ag.length au) ag) (h : portreeveref04_Apply.f k ai ae af ag a1_0 a1_1 a1_2 a1_3 a1_4 a1_5 a1_6 a1_7 a1_8 = some (r1, r2, r3, r4, r5)) :
  Calls Try.prog 23 #[.agg #[.int .i64 ai, .slice an ae.length ao, .slice ap af.length aq, .slice ar ag.length au], .agg #[.int .i64 a1_0, .int .i64 a1_1, .int .i64 a1_2, .int .u32 a1_3, .string a1_4, .int .u64 a1_5, .int .u64 a1_6, .int .i64 a1_7, .int .i64 a1_8]] w fun e w' => ∃ v1_ v2_ v3_ : Value, e = .returned (.tuple #[.agg #[.int .i64 r1, v1_, v2_, v3_], .int .i64 r5]) ∧ Kd.V k51 51 w' w.heap.size (fun k_ => ((ax k_ ∨ ay k_ ∨ az k_) ∨ w.heap.size ≤ k_)) v1_ r2 ∧ Kd.V k56 56 w' w.heap.size (fun k_ => ((ax k_ ∨ ay k_ ∨ az k_) ∨ w.heap.size ≤ k_)) v2_ r3 ∧ Kd.V k68 68 w' w.heap.size (fun k_ => ((ax k_ ∨ ay k_ ∨ az k_) ∨ w.heap.size ≤ k_)) v3_ r4 ∧ Below w.heap.size w w' := by
 have hu46 := Try.underlying46
 have hu35 := Try.underlying35
 have hu56 := Try.underlying56
 have ak := Aside0.mk (show Kd.V k51 51 w w.heap.size (fun k_ => ((ax k_ ∨ ay k_ ∨ az k_) ∨ w.heap.size ≤ k_)) (.slice an ae.length ao) ae from Kd.V_mono hs0_1 (fun k_ hk => .inl (.inl hk)))
 have al := Aside0.mk (show Kd.V k56 56 w w.heap.size (fun k_ => ((ax k_ ∨ ay k_ ∨ az k_) ∨ w.heap.size ≤ k_)) (.slice ap af.length aq) af from Kd.V_mono hs0_2 (fun k_ hk => .inl (.inr (.inl hk))))
 have am := Aside0.mk (show Kd.V k68 68 w w.heap.size (fun k_ => ((ax k_ ∨ ay k_ ∨ az k_) ∨ w.heap.size ≤ k_)) (.slice ar ag.length au) ag from Kd.V_mono hs0_3 (fun k_ hk => .inl (.inr (.inr hk))))
 have HB := Aside0.mk (Below.refl w.heap.size w)
 have H : ((portreeveref04_May.f k a1_0 a1_1 a1_2 a1_3 a1_4 a1_5 a1_6 a1_7 a1_8).bind fun bC => (if bC = true then (if a1_0 = 1 then (none) else (if a1_0 = 2 then (portreeveref04_Apply.j0 k a1_0 (a1_0 == 2) ai ae af ag a1_0 a1_1 a1_2 a1_3 a1_4 a1_5 a1_6 a1_7 a1_8) else (portreeveref04_Apply.j0 k a1_0 (a1_0 == 3) ai ae af ag a1_0 a1_1 a1_2 a1_3 a1_4 a1_5 a1_6 a1_7 a1_8))) else (some (ai, ae, af, ag, 1)))) = some (r1, r2, r3, r4, r5) := h
 clear h
 replace H := Option.bind_eq_some_iff.mp H
 obtain ⟨bC, cv, H⟩ := H
 replace H : (if bC = true then (if a1_0 = 1 then (none) else (if a1_0 = 2 then (portreeveref04_Apply.j0 k a1_0 (a1_0 == 2) ai ae af ag a1_0 a1_1 a1_2 a1_3 a1_4 a1_5 a1_6 a1_7 a1_8) else (portreeveref04_Apply.j0 k a1_0 (a1_0 == 3) ai ae af ag a1_0 a1_1 a1_2 a1_3 a1_4 a1_5 a1_6 a1_7 a1_8))) else (some (ai, ae, af, ag, 1))) = some (r1, r2, r3, r4, r5) := H
 have A3 := Aside0.mk cv
 clear cv
 by_cases c4 : bC = true
 ·subst c4
  have H1 : (if a1_0 = 1 then (none) else (if a1_0 = 2 then (portreeveref04_Apply.j0 k a1_0 (a1_0 == 2) ai ae af ag a1_0 a1_1 a1_2 a1_3 a1_4 a1_5 a1_6 a1_7 a1_8) else (portreeveref04_Apply.j0 k a1_0 (a1_0 == 3) ai ae af ag a1_0 a1_1 a1_2 a1_3 a1_4 a1_5 a1_6 a1_7 a1_8))) = some (r1, r2, r3, r4, r5) := by rw [if_pos rfl] at H; exact H
  clear H
  have H := H1
  clear H1
  by_cases c5 : a1_0 = 1
  ·rw [if_pos c5] at H
   exact absurd H (by simp)
  ·rw [if_neg c5] at H
   have cl : (a1_0 == 1) = false := beq_eq_false_iff_ne.mpr c5
   have cm : (a1_0 != 1) = true := bne_iff_ne.mpr c5
   have HC6 := Aside0.mk H
   clear H
   go_enter Try.func23, Try.ntmps23
   go_upto_if 23 with (first | ((with_reducible refine gate_dst (N := 2) rfl ?_); refine box_event ?hg (N := 2) ?hd (cs := #[.int .i64 ai, .slice an ae.length ao, .slice ap af.length aq, .slice ar ag.length au]) (t := 46) ?hr ?_; (case hd => rfl); (case hg => rfl); (case hr => first | (go_simp; done) | (go_simp; rfl)); intro aa hg w7 hbox hb; have n0_ := Aside0.mk (Kd.V_below (Kd.V_elderB (zV ak.out) aa (Nat.le_of_eq hg.symm)) hb); have n1_ := Aside0.mk (Kd.V_below (Kd.V_elderB (zV al.out) aa (Nat.le_of_eq hg.symm)) hb); have n2_ := Aside0.mk (Kd.V_below (Kd.V_elderB (zV am.out) aa (Nat.le_of_eq hg.symm)) hb); have n3_ := Aside0.mk (below_step (zH HB.out) hb); have n4_ := Aside0.mk (hbox); have n5_ := Aside0.mk ((by rw [hg]; exact (below_size (zH HB.out)) : w.heap.size ≤ aa)); have n6_ := Aside0.mk ((by rw [hg]; exact (below_size (zH HB.out)) : w.heap.size ≤ aa)); clear ak; clear al; clear am; clear HB; have ak := n0_; have al := n1_; have am := n2_; have HB := n3_; have ad := n4_; have cr := n5_; have aj := n6_; clear n0_ n1_ n2_ n3_ n4_ n5_ n6_; clear hb hbox hg) | ((with_reducible refine gate_dst (N := 3) rfl ?_); refine box_event ?hg (N := 3) ?hd (cs := #[.int .i64 a1_0, .int .i64 a1_1, .int .i64 a1_2, .int .u32 a1_3, .string a1_4, .int .u64 a1_5, .int .u64 a1_6, .int .i64 a1_7, .int .i64 a1_8]) (t := 35) ?hr ?_; (case hd => rfl); (case hg => rfl); (case hr => first | (go_simp; done) | (go_simp; rfl)); intro ac hg w8 hbox hb; have n0_ := Aside0.mk (Kd.V_below (Kd.V_elderB (zV ak.out) ac (Nat.le_of_eq hg.symm)) hb); have n1_ := Aside0.mk (Kd.V_below (Kd.V_elderB (zV al.out) ac (Nat.le_of_eq hg.symm)) hb); have n2_ := Aside0.mk (Kd.V_below (Kd.V_elderB (zV am.out) ac (Nat.le_of_eq hg.symm)) hb); have n3_ := Aside0.mk (blk_below (g := aa) (o := .cells #[.int .i64 ai, .slice an ae.length ao, .slice ap af.length aq, .slice ar ag.length au] 46 (0, 0)) (zB ad.out) hb); have n4_ := Aside0.mk (below_step (by repeat (first | (with_reducible first | exact HB.out | apply pA | apply pN | apply pD | refine pS ?_ aj.out) | exact HB.out)) hb); have n5_ := Aside0.mk (hbox); have n6_ := Aside0.mk ((by rw [hg]; exact (below_size (by repeat (first | (with_reducible first | exact HB.out | apply pA | apply pN | apply pD | refine pS ?_ aj.out) | exact HB.out))) : w.heap.size ≤ ac)); have n7_ := Aside0.mk ((by rw [hg]; exact (below_size (by repeat (first | (with_reducible first | exact HB.out | apply pA | apply pN | apply pD | refine pS ?_ aj.out) | exact HB.out))) : w.heap.size ≤ ac)); have n8_ := Aside0.mk ((by rw [hg]; exact Nat.ne_of_lt (blk_lt (g := aa) (o := .cells #[.int .i64 ai, .slice an ae.length ao, .slice ap af.length aq, .slice ar ag.length au] 46 (0, 0)) (zB ad.out)) : aa ≠ ac)); have n9_ := Aside0.mk ((by rw [hg]; exact Nat.ne_of_gt (blk_lt (g := aa) (o := .cells #[.int .i64 ai, .slice an ae.length ao, .slice ap af.length aq, .slice ar ag.length au] 46 (0, 0)) (zB ad.out)) : ac ≠ aa)); clear ak; clear al; clear am; clear ad; clear HB; have ak := n0_; have al := n1_; have am := n2_; have ad := n3_; have HB := n4_; have ah := n5_; have ct := n6_; have aw := n7_; have aE := n8_; have aF := n9_; clear n0_ n1_ n2_ n3_ n4_ n5_ n6_ n7_ n8_ n9_; clear hb hbox hg) | ((with_reducible refine gate_dst (N := 4) rfl ?_); refine box_event ?hg (N := 4) ?hd (cs := #[.int .i64 0, .slice none 0 0, .slice none 0 0, .slice none 0 0]) (t := 46) ?hr ?_; (case hd => rfl); (case hg => rfl); (case hr => first | (go_simp; done) | (go_simp; rfl)); intro ab hg w9 hbox hb; have n0_ := Aside0.mk (Kd.V_below (Kd.V_elderB (zV ak.out) ab (Nat.le_of_eq hg.symm)) hb); have n1_ := Aside0.mk (Kd.V_below (Kd.V_elderB (zV al.out) ab (Nat.le_of_eq hg.symm)) hb); have n2_ := Aside0.mk (Kd.V_below (Kd.V_elderB (zV am.out) ab (Nat.le_of_eq hg.symm)) hb); have n3_ := Aside0.mk (blk_below (g := aa) (o := .cells #[.int .i64 ai, .slice an ae.length ao, .slice ap af.length aq, .slice ar ag.length au] 46 (0, 0)) (zB ad.out) hb); have n4_ := Aside0.mk (blk_below (g := ac) (o := .cells #[.int .i64 a1_0, .int .i64 a1_1, .int .i64 a1_2, .int .u32 a1_3, .string a1_4, .int .u64 a1_5, .int .u64 a1_6, .int .i64 a1_7, .int .i64 a1_8] 35 (0, 0)) (zB ah.out) hb); have n5_ := Aside0.mk (below_step (by repeat (first | (with_reducible first | exact HB.out | apply pA | apply pN | apply pD | refine pS ?_ aj.out | refine pS ?_ aw.out) | exact HB.out)) hb); have n6_ := Aside0.mk (hbox); have n7_ := Aside0.mk ((by rw [hg]; exact (below_size (by repeat (first | (with_reducible first | exact HB.out | apply pA | apply pN | apply pD | refine pS ?_ aj.out | refine pS ?_ aw.out) | exact HB.out))) : w.heap.size ≤ ab)); have n8_ := Aside0.mk ((by rw [hg]; exact (below_size (by repeat (first | (with_reducible first | exact HB.out | apply pA | apply pN | apply pD | refine pS ?_ aj.out | refine pS ?_ aw.out) | exact HB.out))) : w.heap.size ≤ ab)); have n9_ := Aside0.mk ((by rw [hg]; exact Nat.ne_of_lt (blk_lt (g := aa) (o := .cells #[.int .i64 ai, .slice an ae.length ao, .slice ap af.length aq, .slice ar ag.length au] 46 (0, 0)) (zB ad.out)) : aa ≠ ab)); have n10_ := Aside0.mk ((by rw [hg]; exact Nat.ne_of_gt (blk_lt (g := aa) (o := .cells #[.int .i64 ai, .slice an ae.length ao, .slice ap af.length aq, .slice ar ag.length au] 46 (0, 0)) (zB ad.out)) : ab ≠ aa)); have n11_ := Aside0.mk ((by rw [hg]; exact Nat.ne_of_lt (blk_lt (g := ac) (o := .cells #[.int .i64 a1_0, .int .i64 a1_1, .int .i64 a1_2, .int .u32 a1_3, .string a1_4, .int .u64 a1_5, .int .u64 a1_6, .int .i64 a1_7, .int .i64 a1_8] 35 (0, 0)) (zB ah.out)) : ac ≠ ab)); have n12_ := Aside0.mk ((by rw [hg]; exact Nat.ne_of_gt (blk_lt (g := ac) (o := .cells #[.int .i64 a1_0, .int .i64 a1_1, .int .i64 a1_2, .int .u32 a1_3, .string a1_4, .int .u64 a1_5, .int .u64 a1_6, .int .i64 a1_7, .int .i64 a1_8] 35 (0, 0)) (zB ah.out)) : ab ≠ ac)); clear ak; clear al; clear am; clear ad; clear ah; clear HB; have ak := n0_; have al := n1_; have am := n2_; have ad := n3_; have ah := n4_; have HB := n5_; have av := n6_; have cu := n7_; have aA := n8_; have aJ := n9_; have aK := n10_; have aG := n11_; have aH := n12_; clear n0_ n1_ n2_ n3_ n4_ n5_ n6_ n7_ n8_ n9_ n10_ n11_ n12_; clear hb hbox hg; have dg := aF.out; have dh := aE.out; have di := aG.out; have dj := aH.out; obtain ⟨aR, aS, aT, aU, aV, aW, aX, aY, aZ, ba, bb, bc, bd, be, bf, bg, bh, bi⟩ := bk9 ah.out) | ((with_reducible refine gate_callee (f := 25) rfl ?_); refine goesL_ (some 10) rfl rfl Try.func25 (by kernel_rfl) rfl #[.agg #[.int .i64 a1_0, .int .i64 a1_1, .int .i64 a1_2, .int .u32 a1_3, .string a1_4, .int .u64 a1_5, .int .u64 a1_6, .int .i64 a1_7, .int .i64 a1_8]] rfl (by (try simp only [List.map_toArray, List.map_cons, List.map_nil]); first | done | rfl | (simp only [List.length_drop, List.length_take]; rfl)) ?_; (with_reducible refine (portreeveref04_May.calls k a1_0 a1_1 a1_2 a1_3 a1_4 a1_5 a1_6 a1_7 a1_8 true _ A3.out).mono ?_); rintro e w13 ⟨rfl, hb⟩; refine ⟨_, rfl, ?_⟩; have n0_ := Aside0.mk (Kd.V_below (zV ak.out) hb); have n1_ := Aside0.mk (Kd.V_below (zV al.out) hb); have n2_ := Aside0.mk (Kd.V_below (zV am.out) hb); have n3_ := Aside0.mk (blk_below (g := aa) (o := .cells #[.int .i64 ai, .slice an ae.length ao, .slice ap af.length aq, .slice ar ag.length au] 46 (0, 0)) (zB ad.out) hb); have n4_ := Aside0.mk (blk_below (g := ac) (o := .cells #[.int .i64 a1_0, .int .i64 a1_1, .int .i64 a1_2, .int .u32 a1_3, .string a1_4, .int .u64 a1_5, .int .u64 a1_6, .int .i64 a1_7, .int .i64 a1_8] 35 (0, 0)) (zB ah.out) hb); have n5_ := Aside0.mk (blk_below (g := ab) (o := .cells #[.int .i64 0, .slice none 0 0, .slice none 0 0, .slice none 0 0] 46 (0, 0)) (zB av.out) hb); have n6_ := Aside0.mk (below_step (by repeat (first | (with_reducible first | exact HB.out | apply pA | apply pN | apply pD | refine pS ?_ aj.out | refine pS ?_ aw.out | refine pS ?_ aA.out) | exact HB.out)) hb); clear ak; clear al; clear am; clear ad; clear ah; clear av; clear HB; have ak := n0_; have al := n1_; have am := n2_; have ad := n3_; have ah := n4_; have av := n5_; have HB := n6_; clear n0_ n1_ n2_ n3_ n4_ n5_ n6_; (try clear hb); (try clear hb2); (try clear hk); (try clear hi); obtain ⟨bj, bk, bl, bm, bn, bo, bp, bq, br, bs, bt, bu, bv, bw, bx, bz, bA, bB⟩ := bk9 ah.out))
   (try simp only [Act.put, sT, s0, s1])
   go_cut [23] (fun v23 wc => ∃ (kq : Nat) (aP : Bool), v23 = .bool aP ∧ Aside0 (portreeveref04_Apply.j0 kq a1_0 aP ai ae af ag a1_0 a1_1 a1_2 a1_3 a1_4 a1_5 a1_6 a1_7 a1_8 = some (r1, r2, r3, r4, r5)) ∧ Aside0 (kq ≤ k) ∧ Aside0 (Kd.V k51 51 wc w.heap.size (fun k_ => ((ax k_ ∨ ay k_ ∨ az k_) ∨ w.heap.size ≤ k_) ∧ k_ ≠ aa ∧ k_ ≠ ac ∧ k_ ≠ ab) (.slice an ae.length ao) ae) ∧ Aside0 (Kd.V k56 56 wc w.heap.size (fun k_ => ((ax k_ ∨ ay k_ ∨ az k_) ∨ w.heap.size ≤ k_) ∧ k_ ≠ aa ∧ k_ ≠ ac ∧ k_ ≠ ab) (.slice ap af.length aq) af) ∧ Aside0 (Kd.V k68 68 wc w.heap.size (fun k_ => ((ax k_ ∨ ay k_ ∨ az k_) ∨ w.heap.size ≤ k_) ∧ k_ ≠ aa ∧ k_ ≠ ac ∧ k_ ≠ ab) (.slice ar ag.length au) ag) ∧ Aside0 (wc.heap[aa]? = some (.cells #[.int .i64 ai, (.slice an ae.length ao), (.slice ap af.length aq), (.slice ar ag.length au)] 46 (0, 0))) ∧ Aside0 (wc.heap[ac]? = some (.cells #[.int .i64 a1_0, .int .i64 a1_1, .int .i64 a1_2, .int .u32 a1_3, .string a1_4, .int .u64 a1_5, .int .u64 a1_6, .int .i64 a1_7, .int .i64 a1_8] 35 (0, 0))) ∧ Aside0 (wc.heap[ab]? = some (.cells #[.int .i64 0, (.slice none 0 0), (.slice none 0 0), (.slice none 0 0)] 46 (0, 0))) ∧ Aside0 (Below w.heap.size w wc))
   case first =>
    have H := HC6.out
    clear HC6
    by_cases c15 : a1_0 = 2
    ·rw [if_pos c15] at H
     have aI : (a1_0 == 2) = true := beq_iff_eq.mpr c15
     have bD : (a1_0 != 2) = false := bne_eq_false_iff_eq.mpr c15
     clear c15
     (first | rw [aI] | (simp only [i64_w, i32_w]; rw [aI]) | skip)
     have H' := Aside0.mk H
     clear H
     go_wp2
     go_meet
     case rel => exact ⟨_, ((a1_0 == 2)), (by first | rfl | (simp; done) | (simp [*]; done)), H', ⟨by first | omega | exact Nat.le_refl _⟩, ⟨zV (Kd.V_mono ak.out (fun _ hk => ⟨hk.1.1.1, ⟨hk.1.1.2, ⟨hk.1.2, hk.2⟩⟩⟩))⟩, ⟨zV (Kd.V_mono al.out (fun _ hk => ⟨hk.1.1.1, ⟨hk.1.1.2, ⟨hk.1.2, hk.2⟩⟩⟩))⟩, ⟨zV (Kd.V_mono am.out (fun _ hk => ⟨hk.1.1.1, ⟨hk.1.1.2, ⟨hk.1.2, hk.2⟩⟩⟩))⟩, ⟨zB ad.out⟩, ⟨zB ah.out⟩, ⟨zB av.out⟩, ⟨by repeat (first | (with_reducible first | exact HB.out | apply pA | apply pN | apply pD | refine pS ?_ aj.out | refine pS ?_ aw.out | refine pS ?_ aA.out) | exact HB.out)⟩⟩
    ·rw [if_neg c15] at H
     have aI : (a1_0 == 2) = false := beq_eq_false_iff_ne.mpr c15
     have bD : (a1_0 != 2) = true := bne_iff_ne.mpr c15
     (first | rw [aI] | (simp only [i64_w, i32_w]; rw [aI]) | skip)
     have H' := Aside0.mk H
     clear H
     go_wp2
     go_meet
     case rel => exact ⟨_, ((a1_0 == 3)), (by first | rfl | (simp; done) | (simp [*]; done)), H', ⟨by first | omega | exact Nat.le_refl _⟩, ⟨zV (Kd.V_mono ak.out (fun _ hk => ⟨hk.1.1.1, ⟨hk.1.1.2, ⟨hk.1.2, hk.2⟩⟩⟩))⟩, ⟨zV (Kd.V_mono al.out (fun _ hk => ⟨hk.1.1.1, ⟨hk.1.1.2, ⟨hk.1.2, hk.2⟩⟩⟩))⟩, ⟨zV (Kd.V_mono am.out (fun _ hk => ⟨hk.1.1.1, ⟨hk.1.1.2, ⟨hk.1.2, hk.2⟩⟩⟩))⟩, ⟨zB ad.out⟩, ⟨zB ah.out⟩, ⟨zB av.out⟩, ⟨by repeat (first | (with_reducible first | exact HB.out | apply pA | apply pN | apply pD | refine pS ?_ aj.out | refine pS ?_ aw.out | refine pS ?_ aA.out) | exact HB.out)⟩⟩
   case rest =>
    clear HC6
    try clear c1
    try clear c2
    try clear p2
    try clear c4
    try clear c5
    try clear cl
    try clear cm
    try clear c10
    try clear c11
    try clear c15
    try clear aI
    try clear bD
    try clear aR
    try clear aS
    try clear aT
    try clear aU
    try clear aV
    try clear aW
    try clear aX
    try clear aY
    try clear aZ
    try clear bj
    try clear bk
    try clear bl
    try clear bm
    try clear bn
    try clear bo
    try clear bp
    try clear bq
    try clear br
    try clear ba
    try clear bb
    try clear bc
    try clear bd
    try clear be
    try clear bf
    try clear bg
    try clear bh
    try clear bi
    try clear bs
    try clear bt
    try clear bu
    try clear bv
    try clear bw
    try clear bx
    try clear bz
    try clear bA
    try clear bB
    obtain ⟨kq, aP, rfl, HA, cw, aB, aC, aD, ad, ah, av, HB⟩ := hcut
    cases kq with
    | zero => exact absurd HA.out (by simp [portreeveref04_Apply.j0])
    | succ bF =>
     have H := HA.out
     clear HA
     simp only [portreeveref04_Apply.j0] at H
     by_cases c16 : aP = true
     ·subst c16
      have H1 : ((portreeveref04_counted.f bF ai ae af ag a1_0 a1_1 a1_2 a1_3 a1_4 a1_5 a1_6 a1_7 a1_8).bind fun aM => (some (aM.1, aM.2.1, aM.2.2.1, aM.2.2.2.1, aM.2.2.2.2))) = some (r1, r2, r3, r4, r5) := by rw [if_pos rfl] at H; exact H
      clear H
      have H := H1
      clear H1
      replace H := Option.bind_eq_some_iff.mp H
      obtain ⟨⟨aO, aQ, bE, bG, cn⟩, co, H⟩ := H
      replace H : (some (aO, aQ, bE, bG, cn)) = some (r1, r2, r3, r4, r5) := H
      have df := Aside0.mk co
      clear co
      simp only [Option.some.injEq, Prod.mk.injEq] at H
      obtain ⟨rfl, rfl, rfl, rfl, rfl⟩ := H
      have dk := aE.out
      have dl := aF.out
      have dm := aJ.out
      have dn := aK.out
      obtain ⟨bN, bO, bP, bQ, bR, bS, bT, bU⟩ := bk4 ad.out
      have dp := aG.out
      have dq := aH.out
      obtain ⟨bV, bW, bX, bY, bZ, b0, b1, b2, b3, b4, b5, b6, b7, b8, b9, ca, cb, cc⟩ := bk9 ah.out
      go_wp2_with (first | ((with_reducible refine gate_callee (f := 34) rfl ?_); refine goesL_ (some 28) rfl rfl Try.func34 (by kernel_rfl) rfl #[.agg #[.int .i64 ai, .slice an ae.length ao, .slice ap af.length aq, .slice ar ag.length au], .agg #[.int .i64 a1_0, .int .i64 a1_1, .int .i64 a1_2, .int .u32 a1_3, .string a1_4, .int .u64 a1_5, .int .u64 a1_6, .int .i64 a1_7, .int .i64 a1_8]] rfl (by (try simp only [List.map_toArray, List.map_cons, List.map_nil]); first | done | rfl | (simp only [List.length_drop, List.length_take]; rfl)) ?_; (with_reducible refine (portreeveref04_counted.calls bF ai (fun k_ => (((ax k_ ∨ ay k_ ∨ az k_) ∨ w.heap.size ≤ k_) ∧ (k_ ≠ aa ∧ (k_ ≠ ac ∧ k_ ≠ ab)))) _ _ ae (fun k_ => (((ax k_ ∨ ay k_ ∨ az k_) ∨ w.heap.size ≤ k_) ∧ (k_ ≠ aa ∧ (k_ ≠ ac ∧ k_ ≠ ab)))) _ _ af (fun k_ => (((ax k_ ∨ ay k_ ∨ az k_) ∨ w.heap.size ≤ k_) ∧ (k_ ≠ aa ∧ (k_ ≠ ac ∧ k_ ≠ ab)))) _ _ ag a1_0 a1_1 a1_2 a1_3 a1_4 a1_5 a1_6 a1_7 a1_8 aO aQ bE bG cn _ ?side1 ?side2 ?side3 df.out).mono ?_); (case side1 => exact aB.out); (case side2 => exact aC.out); (case side3 => exact aD.out); rintro e w23 ⟨v418, v421, v424, rfl, ho0, ho1, ho2, hb⟩; refine ⟨_, rfl, ?_⟩; have n0_ := Aside0.mk (Kd.V_below (zV aB.out) hb); have n1_ := Aside0.mk (Kd.V_below (zV aC.out) hb); have n2_ := Aside0.mk (Kd.V_below (zV aD.out) hb); have n3_ := Aside0.mk (Kd.V_lower (Kd.V_mono (ok' := fun k_ => ((ax k_ ∨ ay k_ ∨ az k_) ∨ w.heap.size ≤ k_) ∧ k_ ≠ aa ∧ k_ ≠ ac ∧ k_ ≠ ab) ho0 (fun k_ hk_ => ⟨Or.elim hk_ (fun hs_ => Or.elim hs_ (fun hs_ => hs_.1) (fun hs_ => Or.elim hs_ (fun hs_ => hs_.1) (fun hs_ => hs_.1))) (fun hn_ => (.inr (Nat.le_trans (below_size (by repeat (first | (with_reducible first | exact HB.out | apply pA | apply pN | apply pD | refine pS ?_ aj.out | refine pS ?_ aw.out | refine pS ?_ aA.out) | exact HB.out))) hn_))), Or.elim hk_ (fun hs_ => Or.elim hs_ (fun hs_ => hs_.2.1) (fun hs_ => Or.elim hs_ (fun hs_ => hs_.2.1) (fun hs_ => hs_.2.1))) (fun hn_ => (Kd.freshB (g := aa) (o := .cells #[.int .i64 ai, .slice an ae.length ao, .slice ap af.length aq, .slice ar ag.length au] 46 (0, 0)) (zB ad.out) k_ hn_)), Or.elim hk_ (fun hs_ => Or.elim hs_ (fun hs_ => hs_.2.2.1) (fun hs_ => Or.elim hs_ (fun hs_ => hs_.2.2.1) (fun hs_ => hs_.2.2.1))) (fun hn_ => (Kd.freshB (g := ac) (o := .cells #[.int .i64 a1_0, .int .i64 a1_1, .int .i64 a1_2, .int .u32 a1_3, .string a1_4, .int .u64 a1_5, .int .u64 a1_6, .int .i64 a1_7, .int .i64 a1_8] 35 (0, 0)) (zB ah.out) k_ hn_)), Or.elim hk_ (fun hs_ => Or.elim hs_ (fun hs_ => hs_.2.2.2) (fun hs_ => Or.elim hs_ (fun hs_ => hs_.2.2.2) (fun hs_ => hs_.2.2.2))) (fun hn_ => (Kd.freshB (g := ab) (o := .cells #[.int .i64 0, .slice none 0 0, .slice none 0 0, .slice none 0 0] 46 (0, 0)) (zB av.out) k_ hn_))⟩)) (below_size (by repeat (first | (with_reducible first | exact HB.out | apply pA | apply pN | apply pD | refine pS ?_ aj.out | refine pS ?_ aw.out | refine pS ?_ aA.out) | exact HB.out)))); have n4_ := Aside0.mk (Kd.V_lower (Kd.V_mono (ok' := fun k_ => ((ax k_ ∨ ay k_ ∨ az k_) ∨ w.heap.size ≤ k_) ∧ k_ ≠ aa ∧ k_ ≠ ac ∧ k_ ≠ ab) ho1 (fun k_ hk_ => ⟨Or.elim hk_ (fun hs_ => Or.elim hs_ (fun hs_ => hs_.1) (fun hs_ => Or.elim hs_ (fun hs_ => hs_.1) (fun hs_ => hs_.1))) (fun hn_ => (.inr (Nat.le_trans (below_size (by repeat (first | (with_reducible first | exact HB.out | apply pA | apply pN | apply pD | refine pS ?_ aj.out | refine pS ?_ aw.out | refine pS ?_ aA.out) | exact HB.out))) hn_))), Or.elim hk_ (fun hs_ => Or.elim hs_ (fun hs_ => hs_.2.1) (fun hs_ => Or.elim hs_ (fun hs_ => hs_.2.1) (fun hs_ => hs_.2.1))) (fun hn_ => (Kd.freshB (g := aa) (o := .cells #[.int .i64 ai, .slice an ae.length ao, .slice ap af.length aq, .slice ar ag.length au] 46 (0, 0)) (zB ad.out) k_ hn_)), Or.elim hk_ (fun hs_ => Or.elim hs_ (fun hs_ => hs_.2.2.1) (fun hs_ => Or.elim hs_ (fun hs_ => hs_.2.2.1) (fun hs_ => hs_.2.2.1))) (fun hn_ => (Kd.freshB (g := ac) (o := .cells #[.int .i64 a1_0, .int .i64 a1_1, .int .i64 a1_2, .int .u32 a1_3, .string a1_4, .int .u64 a1_5, .int .u64 a1_6, .int .i64 a1_7, .int .i64 a1_8] 35 (0, 0)) (zB ah.out) k_ hn_)), Or.elim hk_ (fun hs_ => Or.elim hs_ (fun hs_ => hs_.2.2.2) (fun hs_ => Or.elim hs_ (fun hs_ => hs_.2.2.2) (fun hs_ => hs_.2.2.2))) (fun hn_ => (Kd.freshB (g := ab) (o := .cells #[.int .i64 0, .slice none 0 0, .slice none 0 0, .slice none 0 0] 46 (0, 0)) (zB av.out) k_ hn_))⟩)) (below_size (by repeat (first | (with_reducible first | exact HB.out | apply pA | apply pN | apply pD | refine pS ?_ aj.out | refine pS ?_ aw.out | refine pS ?_ aA.out) | exact HB.out)))); have n5_ := Aside0.mk (Kd.V_lower (Kd.V_mono (ok' := fun k_ => ((ax k_ ∨ ay k_ ∨ az k_) ∨ w.heap.size ≤ k_) ∧ k_ ≠ aa ∧ k_ ≠ ac ∧ k_ ≠ ab) ho2 (fun k_ hk_ => ⟨Or.elim hk_ (fun hs_ => Or.elim hs_ (fun hs_ => hs_.1) (fun hs_ => Or.elim hs_ (fun hs_ => hs_.1) (fun hs_ => hs_.1))) (fun hn_ => (.inr (Nat.le_trans (below_size (by repeat (first | (with_reducible first | exact HB.out | apply pA | apply pN | apply pD | refine pS ?_ aj.out | refine pS ?_ aw.out | refine pS ?_ aA.out) | exact HB.out))) hn_))), Or.elim hk_ (fun hs_ => Or.elim hs_ (fun hs_ => hs_.2.1) (fun hs_ => Or.elim hs_ (fun hs_ => hs_.2.1) (fun hs_ => hs_.2.1))) (fun hn_ => (Kd.freshB (g := aa) (o := .cells #[.int .i64 ai, .slice an ae.length ao, .slice ap af.length aq, .slice ar ag.length au] 46 (0, 0)) (zB ad.out) k_ hn_)), Or.elim hk_ (fun hs_ => Or.elim hs_ (fun hs_ => hs_.2.2.1) (fun hs_ => Or.elim hs_ (fun hs_ => hs_.2.2.1) (fun hs_ => hs_.2.2.1))) (fun hn_ => (Kd.freshB (g := ac) (o := .cells #[.int .i64 a1_0, .int .i64 a1_1, .int .i64 a1_2, .int .u32 a1_3, .string a1_4, .int .u64 a1_5, .int .u64 a1_6, .int .i64 a1_7, .int .i64 a1_8] 35 (0, 0)) (zB ah.out) k_ hn_)), Or.elim hk_ (fun hs_ => Or.elim hs_ (fun hs_ => hs_.2.2.2) (fun hs_ => Or.elim hs_ (fun hs_ => hs_.2.2.2) (fun hs_ => hs_.2.2.2))) (fun hn_ => (Kd.freshB (g := ab) (o := .cells #[.int .i64 0, .slice none 0 0, .slice none 0 0, .slice none 0 0] 46 (0, 0)) (zB av.out) k_ hn_))⟩)) (below_size (by repeat (first | (with_reducible first | exact HB.out | apply pA | apply pN | apply pD | refine pS ?_ aj.out | refine pS ?_ aw.out | refine pS ?_ aA.out) | exact HB.out)))); have n6_ := Aside0.mk (blk_below (g := aa) (o := .cells #[.int .i64 ai, .slice an ae.length ao, .slice ap af.length aq, .slice ar ag.length au] 46 (0, 0)) (zB ad.out) hb); have n7_ := Aside0.mk (blk_below (g := ac) (o := .cells #[.int .i64 a1_0, .int .i64 a1_1, .int .i64 a1_2, .int .u32 a1_3, .string a1_4, .int .u64 a1_5, .int .u64 a1_6, .int .i64 a1_7, .int .i64 a1_8] 35 (0, 0)) (zB ah.out) hb); have n8_ := Aside0.mk (blk_below (g := ab) (o := .cells #[.int .i64 0, .slice none 0 0, .slice none 0 0, .slice none 0 0] 46 (0, 0)) (zB av.out) hb); have n9_ := Aside0.mk (below_step (by repeat (first | (with_reducible first | exact HB.out | apply pA | apply pN | apply pD | refine pS ?_ aj.out | refine pS ?_ aw.out | refine pS ?_ aA.out) | exact HB.out)) hb); clear aB; clear aC; clear aD; clear ad; clear ah; clear av; clear HB; have aB := n0_; have aC := n1_; have aD := n2_; have bJ := n3_; have bK := n4_; have bL := n5_; have ad := n6_; have ah := n7_; have av := n8_; have HB := n9_; clear n0_ n1_ n2_ n3_ n4_ n5_ n6_ n7_ n8_ n9_; (try clear hb); (try clear hb2); (try clear hk); (try clear hi); (try clear ho0); (try clear ho1); (try clear ho2); obtain ⟨cd, ce, cf, cg, ch, ci, cj, ck⟩ := bk4 av.out; obtain ⟨bH, bI, cx⟩ := Kd.V_slice bJ.out; subst cx; obtain ⟨cp, cq, cy⟩ := Kd.V_slice bK.out; subst cy; obtain ⟨cz, cA, cB⟩ := Kd.V_slice bL.out; subst cB))
      refine bodyPost_ret (results_ct rfl _ _ ab 46 #[.int .i64 aO, .slice bH aQ.length bI, .slice cp bE.length cq, .slice cz bG.length cA] (0, 0) _ rfl (by (with_reducible repeat (first | refine qN ?_ _ | refine qD ?_ | refine qA ?_ _)); refine blk_put (cs := #[.int .i64 aO, .slice bH aQ.length bI, .slice cp bE.length cq, .slice none 0 0]) ?_ 3 _ rfl; (with_reducible repeat (first | refine qN ?_ _ | refine qD ?_ | refine qA ?_ _)); refine blk_put (cs := #[.int .i64 aO, .slice bH aQ.length bI, .slice none 0 0, .slice none 0 0]) ?_ 2 _ rfl; (with_reducible repeat (first | refine qN ?_ _ | refine qD ?_ | refine qA ?_ _)); refine blk_put (cs := #[.int .i64 aO, .slice none 0 0, .slice none 0 0, .slice none 0 0]) ?_ 1 _ rfl; (with_reducible repeat (first | refine qN ?_ _ | refine qD ?_ | refine qA ?_ _)); refine blk_put (cs := #[.int .i64 0, .slice none 0 0, .slice none 0 0, .slice none 0 0]) ?_ 0 _ rfl; (with_reducible repeat (first | refine qN ?_ _ | refine qD ?_ | refine qA ?_ _)); exact av.out) Try.underlying46 rfl (by kernel_rfl)) rfl ?_
      exact ⟨_, _, _, by first | rfl | (simp [errW_none, errW_some] <;> rfl) | (simp [*, errW_none, errW_some] <;> rfl), (fV bJ.out (fun k_ hk => (⟨hk, hk.2.2.2⟩ : _ ∧ k_ ≠ ab)) (fun _ hk => hk.1.1)), (fV bK.out (fun k_ hk => (⟨hk, hk.2.2.2⟩ : _ ∧ k_ ≠ ab)) (fun _ hk => hk.1.1)), (fV bL.out (fun k_ hk => (⟨hk, hk.2.2.2⟩ : _ ∧ k_ ≠ ab)) (fun _ hk => hk.1.1)), by repeat (first | (with_reducible first | exact HB.out | apply pA | apply pN | apply pD | refine pS ?_ aj.out | refine pS ?_ aw.out | refine pS ?_ aA.out) | exact HB.out)⟩
     ·replace c16 := Bool.eq_false_iff.mpr c16
      subst c16
      have H1 : (if a1_0 = 4 then (portreeveref04_Apply.j1 bF (a1_0 == 4)) else (portreeveref04_Apply.j1 bF (a1_0 == 5))) = some (r1, r2, r3, r4, r5) := by rw [if_neg (show ¬ (false = true) by decide)] at H; exact H
      clear H
      have H := H1
      clear H1
      have HC28 := Aside0.mk H
      clear H
      go_upto_if 31 with (fail)
      go_cut [31] (fun v31 wc => ∃ (kq : Nat) (aN : Bool), v31 = .bool aN ∧ Aside0 (portreeveref04_Apply.j1 kq aN = some (r1, r2, r3, r4, r5)) ∧ Aside0 (kq ≤ bF) ∧ Aside0 (Kd.V k51 51 wc w.heap.size (fun k_ => ((ax k_ ∨ ay k_ ∨ az k_) ∨ w.heap.size ≤ k_) ∧ k_ ≠ aa ∧ k_ ≠ ac ∧ k_ ≠ ab) (.slice an ae.length ao) ae) ∧ Aside0 (Kd.V k56 56 wc w.heap.size (fun k_ => ((ax k_ ∨ ay k_ ∨ az k_) ∨ w.heap.size ≤ k_) ∧ k_ ≠ aa ∧ k_ ≠ ac ∧ k_ ≠ ab) (.slice ap af.length aq) af) ∧ Aside0 (Kd.V k68 68 wc w.heap.size (fun k_ => ((ax k_ ∨ ay k_ ∨ az k_) ∨ w.heap.size ≤ k_) ∧ k_ ≠ aa ∧ k_ ≠ ac ∧ k_ ≠ ab) (.slice ar ag.length au) ag) ∧ Aside0 (wc.heap[aa]? = some (.cells #[.int .i64 ai, (.slice an ae.length ao), (.slice ap af.length aq), (.slice ar ag.length au)] 46 (0, 0))) ∧ Aside0 (wc.heap[ac]? = some (.cells #[.int .i64 a1_0, .int .i64 a1_1, .int .i64 a1_2, .int .u32 a1_3, .string a1_4, .int .u64 a1_5, .int .u64 a1_6, .int .i64 a1_7, .int .i64 a1_8] 35 (0, 0))) ∧ Aside0 (wc.heap[ab]? = some (.cells #[.int .i64 0, (.slice none 0 0), (.slice none 0 0), (.slice none 0 0)] 46 (0, 0))) ∧ Aside0 (Below w.heap.size w wc))
      case first =>
       have H := HC28.out
       clear HC28
       by_cases c29 : a1_0 = 4
       ·rw [if_pos c29] at H
        have aL : (a1_0 == 4) = true := beq_iff_eq.mpr c29
        have bM : (a1_0 != 4) = false := bne_eq_false_iff_eq.mpr c29
        clear c29
        (first | rw [aL] | (simp only [i64_w, i32_w]; rw [aL]) | skip)
        have H' := Aside0.mk H
        clear H
        go_wp2
        go_meet
        case rel => exact ⟨_, ((a1_0 == 4)), (by first | rfl | (simp; done) | (simp [*]; done)), H', ⟨by have := cw.out; first | omega | exact Nat.le_refl _⟩, ⟨zV aB.out⟩, ⟨zV aC.out⟩, ⟨zV aD.out⟩, ⟨zB ad.out⟩, ⟨zB ah.out⟩, ⟨zB av.out⟩, ⟨by repeat (first | (with_reducible first | exact HB.out | apply pA | apply pN | apply pD | refine pS ?_ aj.out | refine pS ?_ aw.out | refine pS ?_ aA.out) | exact HB.out)⟩⟩
       ·rw [if_neg c29] at H
        have aL : (a1_0 == 4) = false := beq_eq_false_iff_ne.mpr c29
        have bM : (a1_0 != 4) = true := bne_iff_ne.mpr c29
        (first | rw [aL] | (simp only [i64_w, i32_w]; rw [aL]) | skip)
        have H' := Aside0.mk H
        clear H
        go_wp2
        go_meet
        case rel => exact ⟨_, ((a1_0 == 5)), (by first | rfl | (simp; done) | (simp [*]; done)), H', ⟨by have := cw.out; first | omega | exact Nat.le_refl _⟩, ⟨zV aB.out⟩, ⟨zV aC.out⟩, ⟨zV aD.out⟩, ⟨zB ad.out⟩, ⟨zB ah.out⟩, ⟨zB av.out⟩, ⟨by repeat (first | (with_reducible first | exact HB.out | apply pA | apply pN | apply pD | refine pS ?_ aj.out | refine pS ?_ aw.out | refine pS ?_ aA.out) | exact HB.out)⟩⟩
      case rest =>
       clear HC28
       try clear c1
       try clear c2
       try clear p2
       try clear c3
       try clear c4
       try clear c5
       try clear cl
       try clear cm
       try clear c10
       try clear c11
       try clear c15
       try clear aI
       try clear bD
       try clear c16
       try clear c18
       try clear c19
       try clear c21
       try clear c23
       try clear c25
       try clear c29
       try clear aL
       try clear bM
       try clear aR
       try clear aS
       try clear aT
       try clear aU
       try clear aV
       try clear aW
       try clear aX
       try clear aY
       try clear aZ
       try clear bj
       try clear bk
       try clear bl
       try clear bm
       try clear bn
       try clear bo
       try clear bp
       try clear bq
       try clear br
       try clear bN
       try clear bO
       try clear bP
       try clear bQ
       try clear bV
       try clear bW
       try clear bX
       try clear bY
       try clear bZ
       try clear b0
       try clear b1
       try clear b2
       try clear b3
       try clear cd
       try clear ce
       try clear cf
       try clear cg
       try clear ba
       try clear bb
       try clear bc
       try clear bd
       try clear be
       try clear bf
       try clear bg
       try clear bh
       try clear bi
       try clear bs
       try clear bt
       try clear bu
       try clear bv
       try clear bw
       try clear bx
       try clear bz
       try clear bA
       try clear bB
       try clear bR
       try clear bS
       try clear bT
       try clear bU
       try clear b4
       try clear b5
       try clear b6
       try clear b7
       try clear b8
       try clear b9
       try clear ca
       try clear cb
       try clear cc
       try clear ch
       try clear ci
       try clear cj
       try clear ck
       try clear p2
       obtain ⟨kq, aN, rfl, HA, dx, aB, aC, aD, ad, ah, av, HB⟩ := hcut
       cases kq with
       | zero => exact absurd HA.out (by simp [portreeveref04_Apply.j1])
       | succ dy =>
        have H := HA.out
        clear HA
        simp only [portreeveref04_Apply.j1] at H
        by_cases c30 : aN = true
        ·subst c30
         have H1 : (none) = some (r1, r2, r3, r4, r5) := by rw [if_pos rfl] at H; exact H
         clear H
         have H := H1
         clear H1
         exact absurd H (by simp)
        ·replace c30 := Bool.eq_false_iff.mpr c30
         subst c30
         have H1 : (none) = some (r1, r2, r3, r4, r5) := by rw [if_neg (show ¬ (false = true) by decide)] at H; exact H
         clear H
         have H := H1
         clear H1
         exact absurd H (by simp)
 ·replace c4 := Bool.eq_false_iff.mpr c4
  subst c4
  have H1 : (some (ai, ae, af, ag, 1)) = some (r1, r2, r3, r4, r5) := by rw [if_neg (show ¬ (false = true) by decide)] at H; exact H
  clear H
  have H := H1
  clear H1
  simp only [Option.some.injEq, Prod.mk.injEq] at H
  obtain ⟨rfl, rfl, rfl, rfl, rfl⟩ := H
  go_enter Try.func23, Try.ntmps23
  go_wp2_with (first | ((with_reducible refine gate_dst (N := 2) rfl ?_); refine box_event ?hg (N := 2) ?hd (cs := #[.int .i64 ai, .slice an ae.length ao, .slice ap af.length aq, .slice ar ag.length au]) (t := 46) ?hr ?_; (case hd => rfl); (case hg => rfl); (case hr => first | (go_simp; done) | (go_simp; rfl)); intro aa hg w31 hbox hb; have n0_ := Aside0.mk (Kd.V_below (Kd.V_elderB (zV ak.out) aa (Nat.le_of_eq hg.symm)) hb); have n1_ := Aside0.mk (Kd.V_below (Kd.V_elderB (zV al.out) aa (Nat.le_of_eq hg.symm)) hb); have n2_ := Aside0.mk (Kd.V_below (Kd.V_elderB (zV am.out) aa (Nat.le_of_eq hg.symm)) hb); have n3_ := Aside0.mk (below_step (zH HB.out) hb); have n4_ := Aside0.mk (hbox); have n5_ := Aside0.mk ((by rw [hg]; exact (below_size (zH HB.out)) : w.heap.size ≤ aa)); have n6_ := Aside0.mk ((by rw [hg]; exact (below_size (zH HB.out)) : w.heap.size ≤ aa)); clear ak; clear al; clear am; clear HB; have ak := n0_; have al := n1_; have am := n2_; have HB := n3_; have ad := n4_; have cr := n5_; have aj := n6_; clear n0_ n1_ n2_ n3_ n4_ n5_ n6_; clear hb hbox hg) | ((with_reducible refine gate_dst (N := 3) rfl ?_); refine box_event ?hg (N := 3) ?hd (cs := #[.int .i64 a1_0, .int .i64 a1_1, .int .i64 a1_2, .int .u32 a1_3, .string a1_4, .int .u64 a1_5, .int .u64 a1_6, .int .i64 a1_7, .int .i64 a1_8]) (t := 35) ?hr ?_; (case hd => rfl); (case hg => rfl); (case hr => first | (go_simp; done) | (go_simp; rfl)); intro ac hg w32 hbox hb; have n0_ := Aside0.mk (Kd.V_below (Kd.V_elderB (zV ak.out) ac (Nat.le_of_eq hg.symm)) hb); have n1_ := Aside0.mk (Kd.V_below (Kd.V_elderB (zV al.out) ac (Nat.le_of_eq hg.symm)) hb); have n2_ := Aside0.mk (Kd.V_below (Kd.V_elderB (zV am.out) ac (Nat.le_of_eq hg.symm)) hb); have n3_ := Aside0.mk (blk_below (g := aa) (o := .cells #[.int .i64 ai, .slice an ae.length ao, .slice ap af.length aq, .slice ar ag.length au] 46 (0, 0)) (zB ad.out) hb); have n4_ := Aside0.mk (below_step (by repeat (first | (with_reducible first | exact HB.out | apply pA | apply pN | apply pD | refine pS ?_ aj.out) | exact HB.out)) hb); have n5_ := Aside0.mk (hbox); have n6_ := Aside0.mk ((by rw [hg]; exact (below_size (by repeat (first | (with_reducible first | exact HB.out | apply pA | apply pN | apply pD | refine pS ?_ aj.out) | exact HB.out))) : w.heap.size ≤ ac)); have n7_ := Aside0.mk ((by rw [hg]; exact (below_size (by repeat (first | (with_reducible first | exact HB.out | apply pA | apply pN | apply pD | refine pS ?_ aj.out) | exact HB.out))) : w.heap.size ≤ ac)); have n8_ := Aside0.mk ((by rw [hg]; exact Nat.ne_of_lt (blk_lt (g := aa) (o := .cells #[.int .i64 ai, .slice an ae.length ao, .slice ap af.length aq, .slice ar ag.length au] 46 (0, 0)) (zB ad.out)) : aa ≠ ac)); have n9_ := Aside0.mk ((by rw [hg]; exact Nat.ne_of_gt (blk_lt (g := aa) (o := .cells #[.int .i64 ai, .slice an ae.length ao, .slice ap af.length aq, .slice ar ag.length au] 46 (0, 0)) (zB ad.out)) : ac ≠ aa)); clear ak; clear al; clear am; clear ad; clear HB; have ak := n0_; have al := n1_; have am := n2_; have ad := n3_; have HB := n4_; have ah := n5_; have ct := n6_; have aw := n7_; have aE := n8_; have aF := n9_; clear n0_ n1_ n2_ n3_ n4_ n5_ n6_ n7_ n8_ n9_; clear hb hbox hg) | ((with_reducible refine gate_dst (N := 4) rfl ?_); refine box_event ?hg (N := 4) ?hd (cs := #[.int .i64 0, .slice none 0 0, .slice none 0 0, .slice none 0 0]) (t := 46) ?hr ?_; (case hd => rfl); (case hg => rfl); (case hr => first | (go_simp; done) | (go_simp; rfl)); intro ab hg w33 hbox hb; have n0_ := Aside0.mk (Kd.V_below (Kd.V_elderB (zV ak.out) ab (Nat.le_of_eq hg.symm)) hb); have n1_ := Aside0.mk (Kd.V_below (Kd.V_elderB (zV al.out) ab (Nat.le_of_eq hg.symm)) hb); have n2_ := Aside0.mk (Kd.V_below (Kd.V_elderB (zV am.out) ab (Nat.le_of_eq hg.symm)) hb); have n3_ := Aside0.mk (blk_below (g := aa) (o := .cells #[.int .i64 ai, .slice an ae.length ao, .slice ap af.length aq, .slice ar ag.length au] 46 (0, 0)) (zB ad.out) hb); have n4_ := Aside0.mk (blk_below (g := ac) (o := .cells #[.int .i64 a1_0, .int .i64 a1_1, .int .i64 a1_2, .int .u32 a1_3, .string a1_4, .int .u64 a1_5, .int .u64 a1_6, .int .i64 a1_7, .int .i64 a1_8] 35 (0, 0)) (zB ah.out) hb); have n5_ := Aside0.mk (below_step (by repeat (first | (with_reducible first | exact HB.out | apply pA | apply pN | apply pD | refine pS ?_ aj.out | refine pS ?_ aw.out) | exact HB.out)) hb); have n6_ := Aside0.mk (hbox); have n7_ := Aside0.mk ((by rw [hg]; exact (below_size (by repeat (first | (with_reducible first | exact HB.out | apply pA | apply pN | apply pD | refine pS ?_ aj.out | refine pS ?_ aw.out) | exact HB.out))) : w.heap.size ≤ ab)); have n8_ := Aside0.mk ((by rw [hg]; exact (below_size (by repeat (first | (with_reducible first | exact HB.out | apply pA | apply pN | apply pD | refine pS ?_ aj.out | refine pS ?_ aw.out) | exact HB.out))) : w.heap.size ≤ ab)); have n9_ := Aside0.mk ((by rw [hg]; exact Nat.ne_of_lt (blk_lt (g := aa) (o := .cells #[.int .i64 ai, .slice an ae.length ao, .slice ap af.length aq, .slice ar ag.length au] 46 (0, 0)) (zB ad.out)) : aa ≠ ab)); have n10_ := Aside0.mk ((by rw [hg]; exact Nat.ne_of_gt (blk_lt (g := aa) (o := .cells #[.int .i64 ai, .slice an ae.length ao, .slice ap af.length aq, .slice ar ag.length au] 46 (0, 0)) (zB ad.out)) : ab ≠ aa)); have n11_ := Aside0.mk ((by rw [hg]; exact Nat.ne_of_lt (blk_lt (g := ac) (o := .cells #[.int .i64 a1_0, .int .i64 a1_1, .int .i64 a1_2, .int .u32 a1_3, .string a1_4, .int .u64 a1_5, .int .u64 a1_6, .int .i64 a1_7, .int .i64 a1_8] 35 (0, 0)) (zB ah.out)) : ac ≠ ab)); have n12_ := Aside0.mk ((by rw [hg]; exact Nat.ne_of_gt (blk_lt (g := ac) (o := .cells #[.int .i64 a1_0, .int .i64 a1_1, .int .i64 a1_2, .int .u32 a1_3, .string a1_4, .int .u64 a1_5, .int .u64 a1_6, .int .i64 a1_7, .int .i64 a1_8] 35 (0, 0)) (zB ah.out)) : ab ≠ ac)); clear ak; clear al; clear am; clear ad; clear ah; clear HB; have ak := n0_; have al := n1_; have am := n2_; have ad := n3_; have ah := n4_; have HB := n5_; have av := n6_; have cu := n7_; have aA := n8_; have aJ := n9_; have aK := n10_; have aG := n11_; have aH := n12_; clear n0_ n1_ n2_ n3_ n4_ n5_ n6_ n7_ n8_ n9_ n10_ n11_ n12_; clear hb hbox hg; have dr := aF.out; have ds := aE.out; have dt := aG.out; have du := aH.out; obtain ⟨cC, cD, cE, cF, cG, cH, cI, cJ, cK, cL, cM, cN, cO, cP, cQ, cR, cS, cT⟩ := bk9 ah.out) | ((with_reducible refine gate_callee (f := 25) rfl ?_); refine goesL_ (some 10) rfl rfl Try.func25 (by kernel_rfl) rfl #[.agg #[.int .i64 a1_0, .int .i64 a1_1, .int .i64 a1_2, .int .u32 a1_3, .string a1_4, .int .u64 a1_5, .int .u64 a1_6, .int .i64 a1_7, .int .i64 a1_8]] rfl (by (try simp only [List.map_toArray, List.map_cons, List.map_nil]); first | done | rfl | (simp only [List.length_drop, List.length_take]; rfl)) ?_; (with_reducible refine (portreeveref04_May.calls k a1_0 a1_1 a1_2 a1_3 a1_4 a1_5 a1_6 a1_7 a1_8 false _ A3.out).mono ?_); rintro e w37 ⟨rfl, hb⟩; refine ⟨_, rfl, ?_⟩; have n0_ := Aside0.mk (Kd.V_below (zV ak.out) hb); have n1_ := Aside0.mk (Kd.V_below (zV al.out) hb); have n2_ := Aside0.mk (Kd.V_below (zV am.out) hb); have n3_ := Aside0.mk (blk_below (g := aa) (o := .cells #[.int .i64 ai, .slice an ae.length ao, .slice ap af.length aq, .slice ar ag.length au] 46 (0, 0)) (zB ad.out) hb); have n4_ := Aside0.mk (blk_below (g := ac) (o := .cells #[.int .i64 a1_0, .int .i64 a1_1, .int .i64 a1_2, .int .u32 a1_3, .string a1_4, .int .u64 a1_5, .int .u64 a1_6, .int .i64 a1_7, .int .i64 a1_8] 35 (0, 0)) (zB ah.out) hb); have n5_ := Aside0.mk (blk_below (g := ab) (o := .cells #[.int .i64 0, .slice none 0 0, .slice none 0 0, .slice none 0 0] 46 (0, 0)) (zB av.out) hb); have n6_ := Aside0.mk (below_step (by repeat (first | (with_reducible first | exact HB.out | apply pA | apply pN | apply pD | refine pS ?_ aj.out | refine pS ?_ aw.out | refine pS ?_ aA.out) | exact HB.out)) hb); clear ak; clear al; clear am; clear ad; clear ah; clear av; clear HB; have ak := n0_; have al := n1_; have am := n2_; have ad := n3_; have ah := n4_; have av := n5_; have HB := n6_; clear n0_ n1_ n2_ n3_ n4_ n5_ n6_; (try clear hb); (try clear hb2); (try clear hk); (try clear hi); have dv := aJ.out; have dw := aK.out; obtain ⟨cU, cV, cW, cX, cY, cZ, c0, c6⟩ := bk4 ad.out; obtain ⟨c7, c8, c9, da, db, dc, dd, de⟩ := bk4 av.out))
  refine bodyPost_ret (results_ct rfl _ _ ab 46 #[.int .i64 ai, .slice an ae.length ao, .slice ap af.length aq, .slice ar ag.length au] (0, 0) _ rfl (by (with_reducible repeat (first | refine qN ?_ _ | refine qD ?_ | refine qA ?_ _)); refine blk_put (cs := #[.int .i64 ai, .slice an ae.length ao, .slice ap af.length aq, .slice none 0 0]) ?_ 3 _ rfl; (with_reducible repeat (first | refine qN ?_ _ | refine qD ?_ | refine qA ?_ _)); refine blk_put (cs := #[.int .i64 ai, .slice an ae.length ao, .slice none 0 0, .slice none 0 0]) ?_ 2 _ rfl; (with_reducible repeat (first | refine qN ?_ _ | refine qD ?_ | refine qA ?_ _)); refine blk_put (cs := #[.int .i64 ai, .slice none 0 0, .slice none 0 0, .slice none 0 0]) ?_ 1 _ rfl; (with_reducible repeat (first | refine qN ?_ _ | refine qD ?_ | refine qA ?_ _)); refine blk_put (cs := #[.int .i64 0, .slice none 0 0, .slice none 0 0, .slice none 0 0]) ?_ 0 _ rfl; (with_reducible repeat (first | refine qN ?_ _ | refine qD ?_ | refine qA ?_ _)); exact av.out) Try.underlying46 rfl (by kernel_rfl)) rfl ?_
  exact ⟨_, _, _, by first | rfl | (simp [errW_none, errW_some] <;> rfl) | (simp [*, errW_none, errW_some] <;> rfl), (fV ak.out (fun k_ hk => (⟨hk, hk.2⟩ : _ ∧ k_ ≠ ab)) (fun _ hk => hk.1.1.1.1)), (fV al.out (fun k_ hk => (⟨hk, hk.2⟩ : _ ∧ k_ ≠ ab)) (fun _ hk => hk.1.1.1.1)), (fV am.out (fun k_ hk => (⟨hk, hk.2⟩ : _ ∧ k_ ≠ ab)) (fun _ hk => hk.1.1.1.1)), by repeat (first | (with_reducible first | exact HB.out | apply pA | apply pN | apply pD | refine pS ?_ aj.out | refine pS ?_ aw.out | refine pS ?_ aA.out) | exact HB.out)⟩

end Go.Proofs.Ytlimlbhhbjaljaa.Q

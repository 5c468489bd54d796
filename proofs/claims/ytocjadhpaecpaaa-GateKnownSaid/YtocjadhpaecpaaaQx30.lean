-- written by this session's own program (wip/tools/myprint.py), over the kit's print
import Derived.Test.YtocjadhpaecpaaaQx0
import Derived.Test.YtocjadhpaecpaaaQx7
import Derived.Test.YtocjadhpaecpaaaQx10
import Derived.Test.YtocjadhpaecpaaaQx11
import Derived.Test.YtocjadhpaecpaaaQx18
namespace Go.Proofs.Ytocjadhpaecpaaa.Q
open Go.RowKit Go.Proofs.YtocjadhpaecpaaaW.PrintWords Go.Proofs.YtocjadhpaecpaaaW.PrintLast Go.Proofs.YtocjadhpaecpaaaW.PrintMore
open Go.Proofs.YtocjadhpaecpaaaV
attribute [local go_sem] max2_int min2_int max_two min_two max_three min_three max_four min_four   -- for this text's walks alone
set_option linter.unusedVariables false
set_option linter.unusedSimpArgs false

/-! ### portreevelaw16_GateKnown: function 7 -/
def portreevelaw16_GateKnown.j0 : Nat → ByteArray → Int → Bool → Bool → List (S41) → Bool → List (S41) → Bool → Option (Bool)
 | 0, _, _, _, _, _, _, _, _ => none
 | k + 1, x4, x6, x7, x8, x9, x10, x11, x50 => if x50 = true then (if x7 = true then (if x8 = true then (some false) else (if x10 = true then (some false) else (some ((wrap64 ((x9.length : Int) + (x11.length : Int))) == 0)))) else (some false)) else (if x7 = true then (if x8 = true then (if x10 = true then (some false) else (if (x11.length : Int) = 1 then (if 0 < (x11.length : Int) then (if ((rd_T41 x11 0).f0) = 4 then (if ((rd_T41 x11 0).f4).toList = x4.toList then (some (decide (((rd_T41 x11 0).f8) ≥ x6))) else (some false)) else (some false)) else (none)) else (some false))) else (some false)) else (some false))
def portreevelaw16_GateKnown.f (k : Nat) (a0_0 : Int) (l0_1 : List (S76)) (l0_2 : List (S72)) (l0_3 : List (S64)) (a0_4 : ByteArray) (a0_5 : Bool) (a0_6 : Int) : Option (Bool) := (portreevelaw16_shown.f k).bind fun t453 => ((portreevelaw16_may.f k a0_0 l0_1 l0_2 l0_3 a0_4 a0_6).bind fun t454 => (if t454 = true then ((gate_Verdict.f k a0_0 l0_1 l0_2 l0_3 a0_4 a0_5 true a0_6).bind fun bt455 => ((gate_Verdict.f k a0_0 l0_1 l0_2 l0_3 a0_4 a0_5 false a0_6).bind fun bt459 => (if a0_5 = true then ((gate_Locked.f a0_0 l0_1 l0_2 l0_3 a0_4 a0_6).bind fun t463 => (portreevelaw16_GateKnown.j0 k a0_4 a0_6 t453 bt455.1 bt455.2 bt459.1 bt459.2 t463)) else (portreevelaw16_GateKnown.j0 k a0_4 a0_6 t453 bt455.1 bt455.2 bt459.1 bt459.2 true)))) else (some t453)))
theorem portreevelaw16_GateKnown.mono_l : ∀ k, (∀ y0 y1 y2 y3 y4 y5 y6 y7, LeO (portreevelaw16_GateKnown.j0 k y0 y1 y2 y3 y4 y5 y6 y7) (portreevelaw16_GateKnown.j0 (k + 1) y0 y1 y2 y3 y4 y5 y6 y7))
 | 0 => fun _ _ _ _ _ _ _ _ r h => by simp [portreevelaw16_GateKnown.j0] at h
 | k + 1 => by
  have ih0 := portreevelaw16_GateKnown.mono_l k
  ·intro y0 y1 y2 y3 y4 y5 y6 y7
   unfold portreevelaw16_GateKnown.j0
   repeat' first
   | (with_reducible exact ih0 _ _ _ _ _ _ _ _)
   | (with_reducible exact gate_Verdict.mono _ _ _ _ _ _ _ _ _)
   | (with_reducible exact portreevelaw16_may.mono _ _ _ _ _ _ _)
   | (with_reducible exact portreevelaw16_shown.mono _)
   | (with_reducible exact LeO.refl _)
   | (with_reducible exact LeO.none _)
   | (with_reducible refine LeO.ite ?_ ?_)
   | (with_reducible refine LeO.bind ?_ (fun _ => ?_))
   | exact ih0 _ _ _ _ _ _ _ _
   | exact gate_Verdict.mono _ _ _ _ _ _ _ _ _
   | exact portreevelaw16_may.mono _ _ _ _ _ _ _
   | exact portreevelaw16_shown.mono _
   | exact LeO.none _
   | refine LeO.ite ?_ ?_
   | refine LeO.bind ?_ (fun _ => ?_)
theorem portreevelaw16_GateKnown.mono : ∀ a0 a1 a2 a3 a4 a5 a6 k, LeO (portreevelaw16_GateKnown.f k a0 a1 a2 a3 a4 a5 a6) (portreevelaw16_GateKnown.f (k + 1) a0 a1 a2 a3 a4 a5 a6) := by
 intro a0 a1 a2 a3 a4 a5 a6 k
 have ih0 := portreevelaw16_GateKnown.mono_l k
 unfold portreevelaw16_GateKnown.f
 repeat' first
   | (with_reducible exact ih0 _ _ _ _ _ _ _ _)
   | (with_reducible exact gate_Verdict.mono _ _ _ _ _ _ _ _ _)
   | (with_reducible exact portreevelaw16_may.mono _ _ _ _ _ _ _)
   | (with_reducible exact portreevelaw16_shown.mono _)
   | (with_reducible exact LeO.refl _)
   | (with_reducible exact LeO.none _)
   | (with_reducible refine LeO.ite ?_ ?_)
   | (with_reducible refine LeO.bind ?_ (fun _ => ?_))
   | exact ih0 _ _ _ _ _ _ _ _
   | exact gate_Verdict.mono _ _ _ _ _ _ _ _ _
   | exact portreevelaw16_may.mono _ _ _ _ _ _ _
   | exact portreevelaw16_shown.mono _
   | exact LeO.none _
   | refine LeO.ite ?_ ?_
   | refine LeO.bind ?_ (fun _ => ?_)
set_option maxHeartbeats 8000000 in
set_option maxRecDepth 100000 in
theorem portreevelaw16_GateKnown.calls (k : Nat) (ad : Int) (ak : Option Addr) (al : Nat) (ac : List (S76)) (an : Option Addr) (ao : Nat) (ae : List (S72)) (ap : Option Addr) (aq : Nat) (af : List (S64)) (aa : ByteArray) (aj : Bool) (ab : Int) (r : Bool) (w : World) (hlaw_ : Aside0 (r = true)) (hr0_1 : Kd.C k76 w ak ac.length ac) (hc0_1 : ac.length ≤ al) (hr0_2 : Kd.C k72 w an ae.length ae) (hc0_2 : ae.length ≤ ao) (hr0_3 : Kd.C k64 w ap af.length af) (hc0_3 : af.length ≤ aq) (h : portreevelaw16_GateKnown.f k ad ac ae af aa aj ab = some r) :
  Calls Try.prog 7 #[.agg #[.int .i64 ad, .slice ak ac.length al, .slice an ae.length ao, .slice ap af.length aq, .string aa, .bool aj, .int .i64 ab]] w fun e w' => e = .returned (.bool r) ∧ Below w.heap.size w w' := by
 have hu56 := Try.underlying56
 have hu26 := Try.underlying26
 have hu41 := Try.underlying41
 have aG := Aside0.mk hr0_1
 have HC0_1 := Aside0.mk hc0_1
 clear hr0_1 hc0_1
 have aH := Aside0.mk hr0_2
 have HC0_2 := Aside0.mk hc0_2
 clear hr0_2 hc0_2
 have aI := Aside0.mk hr0_3
 have HC0_3 := Aside0.mk hc0_3
 clear hr0_3 hc0_3
 have HB := Aside0.mk (Below.refl w.heap.size w)
 have H : ((portreevelaw16_shown.f k).bind fun av => ((portreevelaw16_may.f k ad ac ae af aa ab).bind fun aL => (if aL = true then ((gate_Verdict.f k ad ac ae af aa aj true ab).bind fun ax => ((gate_Verdict.f k ad ac ae af aa aj false ab).bind fun ar => (if aj = true then ((gate_Locked.f ad ac ae af aa ab).bind fun az => (portreevelaw16_GateKnown.j0 k aa ab av ax.1 ax.2 ar.1 ar.2 az)) else (portreevelaw16_GateKnown.j0 k aa ab av ax.1 ax.2 ar.1 ar.2 true)))) else (some av)))) = some r := h
 clear h
 replace H := Option.bind_eq_some_iff.mp H
 obtain ⟨av, cd, H⟩ := H
 replace H : ((portreevelaw16_may.f k ad ac ae af aa ab).bind fun aL => (if aL = true then ((gate_Verdict.f k ad ac ae af aa aj true ab).bind fun ax => ((gate_Verdict.f k ad ac ae af aa aj false ab).bind fun ar => (if aj = true then ((gate_Locked.f ad ac ae af aa ab).bind fun az => (portreevelaw16_GateKnown.j0 k aa ab av ax.1 ax.2 ar.1 ar.2 az)) else (portreevelaw16_GateKnown.j0 k aa ab av ax.1 ax.2 ar.1 ar.2 true)))) else (some av))) = some r := H
 have A2 := Aside0.mk cd
 clear cd
 replace H := Option.bind_eq_some_iff.mp H
 obtain ⟨aL, ce, H⟩ := H
 replace H : (if aL = true then ((gate_Verdict.f k ad ac ae af aa aj true ab).bind fun ax => ((gate_Verdict.f k ad ac ae af aa aj false ab).bind fun ar => (if aj = true then ((gate_Locked.f ad ac ae af aa ab).bind fun az => (portreevelaw16_GateKnown.j0 k aa ab av ax.1 ax.2 ar.1 ar.2 az)) else (portreevelaw16_GateKnown.j0 k aa ab av ax.1 ax.2 ar.1 ar.2 true)))) else (some av)) = some r := H
 have A3 := Aside0.mk ce
 clear ce
 by_cases c4 : aL = true
 ·subst c4
  have H1 : ((gate_Verdict.f k ad ac ae af aa aj true ab).bind fun ax => ((gate_Verdict.f k ad ac ae af aa aj false ab).bind fun ar => (if aj = true then ((gate_Locked.f ad ac ae af aa ab).bind fun az => (portreevelaw16_GateKnown.j0 k aa ab av ax.1 ax.2 ar.1 ar.2 az)) else (portreevelaw16_GateKnown.j0 k aa ab av ax.1 ax.2 ar.1 ar.2 true)))) = some r := by rw [if_pos rfl] at H; exact H
  clear H
  have H := H1
  clear H1
  replace H := Option.bind_eq_some_iff.mp H
  obtain ⟨⟨aA, aD⟩, cf, H⟩ := H
  replace H : ((gate_Verdict.f k ad ac ae af aa aj false ab).bind fun ar => (if aj = true then ((gate_Locked.f ad ac ae af aa ab).bind fun az => (portreevelaw16_GateKnown.j0 k aa ab av aA aD ar.1 ar.2 az)) else (portreevelaw16_GateKnown.j0 k aa ab av aA aD ar.1 ar.2 true))) = some r := H
  have A5 := Aside0.mk cf
  clear cf
  replace H := Option.bind_eq_some_iff.mp H
  obtain ⟨⟨aB, ag⟩, cg, H⟩ := H
  replace H : (if aj = true then ((gate_Locked.f ad ac ae af aa ab).bind fun az => (portreevelaw16_GateKnown.j0 k aa ab av aA aD aB ag az)) else (portreevelaw16_GateKnown.j0 k aa ab av aA aD aB ag true)) = some r := H
  have A6 := Aside0.mk cg
  clear cg
  have HC7 := Aside0.mk H
  clear H
  go_enter Try.func7, Try.ntmps7
  go_upto_region 10 with (first | ((with_reducible refine gate_dst (N := 1) rfl ?_); (try (refine gate_guard (by rfl) ?_; dsimp only)); refine box_event ?hg (N := 1) ?hd (cs := #[.int .i64 ad, .slice ak ac.length al, .slice an ae.length ao, .slice ap af.length aq, .string aa, .bool aj, .int .i64 ab]) (t := 56) ?hr ?_; (case hd => rfl); (case hg => rfl); (case hr => first | (go_simp; done) | (go_simp; rfl)); intro am hg w8 hbox hb; have n0_ := Aside0.mk (below_step (zH HB.out) hb); have n1_ := Aside0.mk (hbox); have n2_ := Aside0.mk ((by rw [hg]; exact (below_size (zH HB.out)) : w.heap.size ≤ am)); have n3_ := Aside0.mk ((by rw [hg]; exact (below_size (zH HB.out)) : w.heap.size ≤ am)); clear HB; have HB := n0_; have ah := n1_; have b3 := n2_; have aw := n3_; clear n0_ n1_ n2_ n3_; clear hb hbox hg; obtain ⟨bO, bP, bQ, bR, bS, bT, bU, bV, bW, bX, bY, bZ, b0, b1⟩ := bk7 ah.out) | ((with_reducible refine gate_dst (N := 3) rfl ?_); (try (refine gate_guard (by rfl) ?_; dsimp only)); refine box_event ?hg (N := 3) ?hd (cs := #[.int .i64 0, .slice none 0 0, .slice none 0 0, .slice none 0 0]) (t := 26) ?hr ?_; (case hd => rfl); (case hg => rfl); (case hr => first | (go_simp; done) | (go_simp; rfl)); intro au hg w10 hbox hb; have n0_ := Aside0.mk (blk_below (g := am) (o := .cells #[.int .i64 ad, .slice ak ac.length al, .slice an ae.length ao, .slice ap af.length aq, .string aa, .bool aj, .int .i64 ab] 56 (0, 0)) (zB ah.out) hb); have n1_ := Aside0.mk (below_step (by repeat (first | (with_reducible first | exact HB.out | apply pA | apply pN | apply pD | refine pS ?_ aw.out) | exact HB.out)) hb); have n2_ := Aside0.mk (hbox); have n3_ := Aside0.mk ((by rw [hg]; exact (below_size (by repeat (first | (with_reducible first | exact HB.out | apply pA | apply pN | apply pD | refine pS ?_ aw.out) | exact HB.out))) : w.heap.size ≤ au)); have n4_ := Aside0.mk ((by rw [hg]; exact (below_size (by repeat (first | (with_reducible first | exact HB.out | apply pA | apply pN | apply pD | refine pS ?_ aw.out) | exact HB.out))) : w.heap.size ≤ au)); have n5_ := Aside0.mk ((by rw [hg]; exact Nat.ne_of_lt (blk_lt (g := am) (o := .cells #[.int .i64 ad, .slice ak ac.length al, .slice an ae.length ao, .slice ap af.length aq, .string aa, .bool aj, .int .i64 ab] 56 (0, 0)) (zB ah.out)) : am ≠ au)); have n6_ := Aside0.mk ((by rw [hg]; exact Nat.ne_of_gt (blk_lt (g := am) (o := .cells #[.int .i64 ad, .slice ak ac.length al, .slice an ae.length ao, .slice ap af.length aq, .string aa, .bool aj, .int .i64 ab] 56 (0, 0)) (zB ah.out)) : au ≠ am)); clear ah; clear HB; have ah := n0_; have HB := n1_; have ai := n2_; have b4 := n3_; have ay := n4_; have aC := n5_; have aE := n6_; clear n0_ n1_ n2_ n3_ n4_ n5_ n6_; clear hb hbox hg; have da := aE.out; have db := aC.out; obtain ⟨aO, aP, aQ, aR, aS, aT, aU, aV⟩ := bk4 ai.out; obtain ⟨aW, aX, aY, aZ, a7, a8, a9, ba, bb, bc, bd, be, bf, bg⟩ := bk7 ah.out) | ((with_reducible refine gate_callee (f := 9) rfl ?_); refine goesL_ (some 20) rfl rfl Try.func9 (by kernel_rfl) rfl #[] rfl (by (try simp only [List.map_toArray, List.map_cons, List.map_nil]); first | done | rfl | (simp only [List.length_drop, List.length_take]; rfl)) ?_; (with_reducible refine (portreevelaw16_shown.calls k  av _ A2.out).mono ?_); rintro e w14 ⟨rfl, hb⟩; refine ⟨_, rfl, ?_⟩; have n0_ := Aside0.mk (blk_below (g := am) (o := .cells #[.int .i64 ad, .slice ak ac.length al, .slice an ae.length ao, .slice ap af.length aq, .string aa, .bool aj, .int .i64 ab] 56 (0, 0)) (fB aC.out ah.out) hb); have n1_ := Aside0.mk (blk_below (g := au) (o := .cells #[.int .i64 ad, .slice ak ac.length al, .slice an ae.length ao, .slice ap af.length aq] 26 (0, 0)) (by (with_reducible repeat (first | refine qN ?_ _ | refine qD ?_ | refine qA ?_ _)); refine blk_put (cs := #[.int .i64 ad, .slice ak ac.length al, .slice an ae.length ao, .slice none 0 0]) ?_ 3 _ rfl; (with_reducible repeat (first | refine qN ?_ _ | refine qD ?_ | refine qA ?_ _)); refine blk_put (cs := #[.int .i64 ad, .slice ak ac.length al, .slice none 0 0, .slice none 0 0]) ?_ 2 _ rfl; (with_reducible repeat (first | refine qN ?_ _ | refine qD ?_ | refine qA ?_ _)); refine blk_put (cs := #[.int .i64 ad, .slice none 0 0, .slice none 0 0, .slice none 0 0]) ?_ 1 _ rfl; (with_reducible repeat (first | refine qN ?_ _ | refine qD ?_ | refine qA ?_ _)); refine blk_put (cs := #[.int .i64 0, .slice none 0 0, .slice none 0 0, .slice none 0 0]) ?_ 0 _ rfl; (with_reducible repeat (first | refine qN ?_ _ | refine qD ?_ | refine qA ?_ _)); exact ai.out) hb); have n2_ := Aside0.mk (below_step (by repeat (first | (with_reducible first | exact HB.out | apply pA | apply pN | apply pD | refine pS ?_ aw.out | refine pS ?_ ay.out) | exact HB.out)) hb); clear ah; clear ai; clear HB; have ah := n0_; have ai := n1_; have HB := n2_; clear n0_ n1_ n2_; (try clear hb); (try clear hb2); (try clear hk); (try clear hi); obtain ⟨bh, bi, bj, bk, bl, bm, bn, bo⟩ := bk4 ai.out) | ((with_reducible refine gate_callee (f := 10) rfl ?_); refine goesL_ (some 24) rfl rfl Try.func10 (by kernel_rfl) rfl #[.agg #[.int .i64 ad, .slice ak ac.length al, .slice an ae.length ao, .slice ap af.length aq], .string aa, .int .i64 ab] rfl (by (try simp only [List.map_toArray, List.map_cons, List.map_nil]); first | done | rfl | (simp only [List.length_drop, List.length_take]; rfl)) ?_; (with_reducible refine (portreevelaw16_may.calls k ad _ _ ac _ _ ae _ _ af aa ab true _ ?side1 ?side2 ?side3 ?side4 ?side5 ?side6 A3.out).mono ?_); (case side1 => repeat (first | exact (Kd.C_below aG.out HB.out) | (with_reducible refine Kd.C_alloc ?_ _) | (with_reducible refine Kd.C_drewN ?_ _) | (with_reducible refine Kd.C_drew ?_))); (case side2 => exact HC0_1.out); (case side3 => repeat (first | exact (Kd.C_below aH.out HB.out) | (with_reducible refine Kd.C_alloc ?_ _) | (with_reducible refine Kd.C_drewN ?_ _) | (with_reducible refine Kd.C_drew ?_))); (case side4 => exact HC0_2.out); (case side5 => repeat (first | exact (Kd.C_below aI.out HB.out) | (with_reducible refine Kd.C_alloc ?_ _) | (with_reducible refine Kd.C_drewN ?_ _) | (with_reducible refine Kd.C_drew ?_))); (case side6 => exact HC0_3.out); rintro e w16 ⟨rfl, hb⟩; refine ⟨_, rfl, ?_⟩; have n0_ := Aside0.mk (blk_below (g := am) (o := .cells #[.int .i64 ad, .slice ak ac.length al, .slice an ae.length ao, .slice ap af.length aq, .string aa, .bool aj, .int .i64 ab] 56 (0, 0)) (zB ah.out) hb); have n1_ := Aside0.mk (blk_below (g := au) (o := .cells #[.int .i64 ad, .slice ak ac.length al, .slice an ae.length ao, .slice ap af.length aq] 26 (0, 0)) (zB ai.out) hb); have n2_ := Aside0.mk (below_step (by repeat (first | (with_reducible first | exact HB.out | apply pA | apply pN | apply pD | refine pS ?_ aw.out | refine pS ?_ ay.out) | exact HB.out)) hb); clear ah; clear ai; clear HB; have ah := n0_; have ai := n1_; have HB := n2_; clear n0_ n1_ n2_; (try clear hb); (try clear hb2); (try clear hk); (try clear hi); obtain ⟨bp, bq, br, bs, bt, bu, bv, bw⟩ := bk4 ai.out) | ((with_reducible refine gate_callee (f := 11) rfl ?_); refine goesL_ (some 32) rfl rfl Try.func11 (by kernel_rfl) rfl #[.agg #[.int .i64 ad, .slice ak ac.length al, .slice an ae.length ao, .slice ap af.length aq], .string aa, .bool aj, .bool true, .int .i64 ab] rfl (by (try simp only [List.map_toArray, List.map_cons, List.map_nil]); first | done | rfl | (simp only [List.length_drop, List.length_take]; rfl)) ?_; (with_reducible refine (gate_Verdict.calls k ad _ _ ac _ _ ae _ _ af aa aj true ab aA aD _ ?side1 ?side2 ?side3 ?side4 ?side5 ?side6 A5.out).mono ?_); (case side1 => repeat (first | exact (Kd.C_below aG.out HB.out) | (with_reducible refine Kd.C_alloc ?_ _) | (with_reducible refine Kd.C_drewN ?_ _) | (with_reducible refine Kd.C_drew ?_))); (case side2 => exact HC0_1.out); (case side3 => repeat (first | exact (Kd.C_below aH.out HB.out) | (with_reducible refine Kd.C_alloc ?_ _) | (with_reducible refine Kd.C_drewN ?_ _) | (with_reducible refine Kd.C_drew ?_))); (case side4 => exact HC0_2.out); (case side5 => repeat (first | exact (Kd.C_below aI.out HB.out) | (with_reducible refine Kd.C_alloc ?_ _) | (with_reducible refine Kd.C_drewN ?_ _) | (with_reducible refine Kd.C_drew ?_))); (case side6 => exact HC0_3.out); rintro e w18 ⟨v457, rfl, ho0, hb⟩; refine ⟨_, rfl, ?_⟩; have n0_ := Aside0.mk (Kd.V_lower (Kd.V_mono (ok' := fun k_ => k_ ≠ am ∧ k_ ≠ au) ho0 (fun k_ hk_ => ⟨(Kd.freshB (g := am) (o := .cells #[.int .i64 ad, .slice ak ac.length al, .slice an ae.length ao, .slice ap af.length aq, .string aa, .bool aj, .int .i64 ab] 56 (0, 0)) (zB ah.out) k_ hk_), (Kd.freshB (g := au) (o := .cells #[.int .i64 ad, .slice ak ac.length al, .slice an ae.length ao, .slice ap af.length aq] 26 (0, 0)) (zB ai.out) k_ hk_)⟩)) (below_size (by repeat (first | (with_reducible first | exact HB.out | apply pA | apply pN | apply pD | refine pS ?_ aw.out | refine pS ?_ ay.out) | exact HB.out)))); have n1_ := Aside0.mk (blk_below (g := am) (o := .cells #[.int .i64 ad, .slice ak ac.length al, .slice an ae.length ao, .slice ap af.length aq, .string aa, .bool aj, .int .i64 ab] 56 (0, 0)) (zB ah.out) hb); have n2_ := Aside0.mk (blk_below (g := au) (o := .cells #[.int .i64 ad, .slice ak ac.length al, .slice an ae.length ao, .slice ap af.length aq] 26 (0, 0)) (zB ai.out) hb); have n3_ := Aside0.mk (below_step (by repeat (first | (with_reducible first | exact HB.out | apply pA | apply pN | apply pD | refine pS ?_ aw.out | refine pS ?_ ay.out) | exact HB.out)) hb); clear ah; clear ai; clear HB; have aF := n0_; have ah := n1_; have ai := n2_; have HB := n3_; clear n0_ n1_ n2_ n3_; (try clear hb); (try clear hb2); (try clear hk); (try clear hi); (try clear ho0); obtain ⟨bx, bz, bA, bB, bC, bD, bE, bF⟩ := bk4 ai.out) | ((with_reducible refine gate_callee (f := 11) rfl ?_); refine goesL_ (some 40) rfl rfl Try.func11 (by kernel_rfl) rfl #[.agg #[.int .i64 ad, .slice ak ac.length al, .slice an ae.length ao, .slice ap af.length aq], .string aa, .bool aj, .bool false, .int .i64 ab] rfl (by (try simp only [List.map_toArray, List.map_cons, List.map_nil]); first | done | rfl | (simp only [List.length_drop, List.length_take]; rfl)) ?_; (with_reducible refine (gate_Verdict.calls k ad _ _ ac _ _ ae _ _ af aa aj false ab aB ag _ ?side1 ?side2 ?side3 ?side4 ?side5 ?side6 A6.out).mono ?_); (case side1 => repeat (first | exact (Kd.C_below aG.out HB.out) | (with_reducible refine Kd.C_alloc ?_ _) | (with_reducible refine Kd.C_drewN ?_ _) | (with_reducible refine Kd.C_drew ?_))); (case side2 => exact HC0_1.out); (case side3 => repeat (first | exact (Kd.C_below aH.out HB.out) | (with_reducible refine Kd.C_alloc ?_ _) | (with_reducible refine Kd.C_drewN ?_ _) | (with_reducible refine Kd.C_drew ?_))); (case side4 => exact HC0_2.out); (case side5 => repeat (first | exact (Kd.C_below aI.out HB.out) | (with_reducible refine Kd.C_alloc ?_ _) | (with_reducible refine Kd.C_drewN ?_ _) | (with_reducible refine Kd.C_drew ?_))); (case side6 => exact HC0_3.out); rintro e w20 ⟨v461, rfl, ho0, hb⟩; refine ⟨_, rfl, ?_⟩; have n0_ := Aside0.mk (Kd.V_below (zV aF.out) hb); have n1_ := Aside0.mk (Kd.V_lower (Kd.V_mono (ok' := fun k_ => k_ ≠ am ∧ k_ ≠ au) ho0 (fun k_ hk_ => ⟨(Kd.freshB (g := am) (o := .cells #[.int .i64 ad, .slice ak ac.length al, .slice an ae.length ao, .slice ap af.length aq, .string aa, .bool aj, .int .i64 ab] 56 (0, 0)) (zB ah.out) k_ hk_), (Kd.freshB (g := au) (o := .cells #[.int .i64 ad, .slice ak ac.length al, .slice an ae.length ao, .slice ap af.length aq] 26 (0, 0)) (zB ai.out) k_ hk_)⟩)) (below_size (by repeat (first | (with_reducible first | exact HB.out | apply pA | apply pN | apply pD | refine pS ?_ aw.out | refine pS ?_ ay.out) | exact HB.out)))); have n2_ := Aside0.mk (blk_below (g := am) (o := .cells #[.int .i64 ad, .slice ak ac.length al, .slice an ae.length ao, .slice ap af.length aq, .string aa, .bool aj, .int .i64 ab] 56 (0, 0)) (zB ah.out) hb); have n3_ := Aside0.mk (blk_below (g := au) (o := .cells #[.int .i64 ad, .slice ak ac.length al, .slice an ae.length ao, .slice ap af.length aq] 26 (0, 0)) (zB ai.out) hb); have n4_ := Aside0.mk (below_step (by repeat (first | (with_reducible first | exact HB.out | apply pA | apply pN | apply pD | refine pS ?_ aw.out | refine pS ?_ ay.out) | exact HB.out)) hb); clear aF; clear ah; clear ai; clear HB; have aF := n0_; have aJ := n1_; have ah := n2_; have ai := n3_; have HB := n4_; clear n0_ n1_ n2_ n3_ n4_; (try clear hb); (try clear hb2); (try clear hk); (try clear hi); (try clear ho0)))
  (try simp only [Act.put, sT, s0, s1])
  go_cut [50] (fun v50 wc => ∃ (kq : Nat) (aM : Bool), v50 = .bool aM ∧ Aside0 (portreevelaw16_GateKnown.j0 kq aa ab av aA aD aB ag aM = some r) ∧ Aside0 (kq ≤ k) ∧ Aside0 (Kd.V k41 41 wc w.heap.size (fun k_ => k_ ≠ am ∧ k_ ≠ au) v457 aD) ∧ Aside0 (Kd.V k41 41 wc w.heap.size (fun k_ => k_ ≠ am ∧ k_ ≠ au) v461 ag) ∧ Aside0 (wc.heap[am]? = some (.cells #[.int .i64 ad, (.slice ak ac.length al), (.slice an ae.length ao), (.slice ap af.length aq), .string aa, .bool aj, .int .i64 ab] 56 (0, 0))) ∧ Aside0 (wc.heap[au]? = some (.cells #[.int .i64 ad, (.slice ak ac.length al), (.slice an ae.length ao), (.slice ap af.length aq)] 26 (0, 0))) ∧ Aside0 (Below w.heap.size w wc))
  case first =>
   have H := HC7.out
   clear HC7
   by_cases c21 : aj = true
   ·subst c21
    have H1 : ((gate_Locked.f ad ac ae af aa ab).bind fun az => (portreevelaw16_GateKnown.j0 k aa ab av aA aD aB ag az)) = some r := by rw [if_pos rfl] at H; exact H
    clear H
    have H := H1
    clear H1
    replace H := Option.bind_eq_some_iff.mp H
    obtain ⟨az, b2, H⟩ := H
    replace H : (portreevelaw16_GateKnown.j0 k aa ab av aA aD aB ag az) = some r := H
    have c8 := Aside0.mk b2
    clear b2
    have H' := Aside0.mk H
    clear H
    have dc := aE.out
    have dd := aC.out
    obtain ⟨bG, bH, bI, bJ, bK, bL, bM, bN⟩ := bk4 ai.out
    go_wp2_with (first | (go_at_call 13; (with_reducible refine (gate_Locked.calls ad _ _ ac _ _ ae _ _ af aa ab az _ ?side1 ?side2 ?side3 ?side4 ?side5 ?side6 c8.out).mono ?_); (case side1 => repeat (first | exact (Kd.C_below aG.out HB.out) | (with_reducible refine Kd.C_alloc ?_ _) | (with_reducible refine Kd.C_drewN ?_ _) | (with_reducible refine Kd.C_drew ?_))); (case side2 => exact HC0_1.out); (case side3 => repeat (first | exact (Kd.C_below aH.out HB.out) | (with_reducible refine Kd.C_alloc ?_ _) | (with_reducible refine Kd.C_drewN ?_ _) | (with_reducible refine Kd.C_drew ?_))); (case side4 => exact HC0_2.out); (case side5 => repeat (first | exact (Kd.C_below aI.out HB.out) | (with_reducible refine Kd.C_alloc ?_ _) | (with_reducible refine Kd.C_drewN ?_ _) | (with_reducible refine Kd.C_drew ?_))); (case side6 => exact HC0_3.out); rintro e w25 ⟨rfl, hb⟩; have n0_ := Aside0.mk (Kd.V_below (zV aF.out) hb); have n1_ := Aside0.mk (Kd.V_below (zV aJ.out) hb); have n2_ := Aside0.mk (blk_below (g := am) (o := .cells #[.int .i64 ad, .slice ak ac.length al, .slice an ae.length ao, .slice ap af.length aq, .string aa, .bool true, .int .i64 ab] 56 (0, 0)) (zB ah.out) hb); have n3_ := Aside0.mk (blk_below (g := au) (o := .cells #[.int .i64 ad, .slice ak ac.length al, .slice an ae.length ao, .slice ap af.length aq] 26 (0, 0)) (zB ai.out) hb); have n4_ := Aside0.mk (below_step (by repeat (first | (with_reducible first | exact HB.out | apply pA | apply pN | apply pD | refine pS ?_ aw.out | refine pS ?_ ay.out) | exact HB.out)) hb); clear aF; clear aJ; clear ah; clear ai; clear HB; have aF := n0_; have aJ := n1_; have ah := n2_; have ai := n3_; have HB := n4_; clear n0_ n1_ n2_ n3_ n4_; (try clear hb); (try clear hb2); (try clear hk); (try clear hi)))
    go_meet
    case rel => exact ⟨_, (az), (by first | rfl | (simp; done) | (simp [*]; done)), H', ⟨by first | omega | exact Nat.le_refl _⟩, ⟨zV aF.out⟩, ⟨zV aJ.out⟩, ⟨zB ah.out⟩, ⟨zB ai.out⟩, ⟨by repeat (first | (with_reducible first | exact HB.out | apply pA | apply pN | apply pD | refine pS ?_ aw.out | refine pS ?_ ay.out) | exact HB.out)⟩⟩
   ·replace c21 := Bool.eq_false_iff.mpr c21
    subst c21
    have H1 : (portreevelaw16_GateKnown.j0 k aa ab av aA aD aB ag true) = some r := by rw [if_neg (show ¬ (false = true) by decide)] at H; exact H
    clear H
    have H := H1
    clear H1
    have H' := Aside0.mk H
    clear H
    go_wp2
    go_meet
    case rel => exact ⟨_, (true), (by first | rfl | (simp; done) | (simp [*]; done)), H', ⟨by first | omega | exact Nat.le_refl _⟩, ⟨zV aF.out⟩, ⟨zV aJ.out⟩, ⟨zB ah.out⟩, ⟨zB ai.out⟩, ⟨by repeat (first | (with_reducible first | exact HB.out | apply pA | apply pN | apply pD | refine pS ?_ aw.out | refine pS ?_ ay.out) | exact HB.out)⟩⟩
  case rest =>
   clear HC7
   try clear c1
   try clear c2
   try clear p2
   try clear c4
   try clear c7
   try clear c9
   try clear c10
   try clear c11
   try clear c21
   try clear c23
   try clear aO
   try clear aP
   try clear aQ
   try clear aR
   try clear aW
   try clear aX
   try clear aY
   try clear aZ
   try clear a7
   try clear a8
   try clear a9
   try clear bh
   try clear bi
   try clear bj
   try clear bk
   try clear bp
   try clear bq
   try clear br
   try clear bs
   try clear bx
   try clear bz
   try clear bA
   try clear bB
   try clear bG
   try clear bH
   try clear bI
   try clear bJ
   try clear bO
   try clear bP
   try clear bQ
   try clear bR
   try clear bS
   try clear bT
   try clear bU
   try clear aS
   try clear aT
   try clear aU
   try clear aV
   try clear ba
   try clear bb
   try clear bc
   try clear bd
   try clear be
   try clear bf
   try clear bg
   try clear bl
   try clear bm
   try clear bn
   try clear bo
   try clear bt
   try clear bu
   try clear bv
   try clear bw
   try clear bC
   try clear bD
   try clear bE
   try clear bF
   try clear bK
   try clear bL
   try clear bM
   try clear bN
   try clear bV
   try clear bW
   try clear bX
   try clear bY
   try clear bZ
   try clear b0
   try clear b1
   obtain ⟨kq, aM, rfl, HA, dp, ch, aK, ah, ai, HB⟩ := hcut
   cases kq with
   | zero => exact absurd HA.out (by simp [portreevelaw16_GateKnown.j0])
   | succ dq =>
    have H := HA.out
    clear HA
    simp only [portreevelaw16_GateKnown.j0] at H
    by_cases c26 : aM = true
    ·subst c26
     have H1 : (if av = true then (if aA = true then (some false) else (if aB = true then (some false) else (some ((wrap64 ((aD.length : Int) + (ag.length : Int))) == 0)))) else (some false)) = some r := by rw [if_pos rfl] at H; exact H
     clear H
     have H := H1
     clear H1
     by_cases c27 : av = true
     ·subst c27
      have H1 : (if aA = true then (some false) else (if aB = true then (some false) else (some ((wrap64 ((aD.length : Int) + (ag.length : Int))) == 0)))) = some r := by rw [if_pos rfl] at H; exact H
      clear H
      have H := H1
      clear H1
      by_cases c28 : aA = true
      ·subst c28
       have H1 : (some false) = some r := by rw [if_pos rfl] at H; exact H
       clear H
       have H := H1
       clear H1
       exact absurd ((Option.some.inj H).trans hlaw_.out) (by decide)
      ·replace c28 := Bool.eq_false_iff.mpr c28
       subst c28
       have H1 : (if aB = true then (some false) else (some ((wrap64 ((aD.length : Int) + (ag.length : Int))) == 0))) = some r := by rw [if_neg (show ¬ (false = true) by decide)] at H; exact H
       clear H
       have H := H1
       clear H1
       by_cases c29 : aB = true
       ·subst c29
        have H1 : (some false) = some r := by rw [if_pos rfl] at H; exact H
        clear H
        have H := H1
        clear H1
        exact absurd ((Option.some.inj H).trans hlaw_.out) (by decide)
       ·replace c29 := Bool.eq_false_iff.mpr c29
        subst c29
        have H1 : (some ((wrap64 ((aD.length : Int) + (ag.length : Int))) == 0)) = some r := by rw [if_neg (show ¬ (false = true) by decide)] at H; exact H
        clear H
        have H := H1
        clear H1
        clear hlaw_
        obtain rfl := Option.some.inj H
        obtain ⟨di, dj, ci⟩ := Kd.V_slice ch.out
        subst ci
        obtain ⟨dk, dl, cj⟩ := Kd.V_slice aK.out
        subst cj
        go_wp2
        go_ret
        exact ⟨by first | rfl | (simp [errW_none, errW_some] <;> rfl) | (simp [*, errW_none, errW_some] <;> rfl), by repeat (first | (with_reducible first | exact HB.out | apply pA | apply pN | apply pD | refine pS ?_ aw.out | refine pS ?_ ay.out) | exact HB.out)⟩
     ·replace c27 := Bool.eq_false_iff.mpr c27
      subst c27
      have H1 : (some false) = some r := by rw [if_neg (show ¬ (false = true) by decide)] at H; exact H
      clear H
      have H := H1
      clear H1
      exact absurd ((Option.some.inj H).trans hlaw_.out) (by decide)
    ·replace c26 := Bool.eq_false_iff.mpr c26
     subst c26
     have H1 : (if av = true then (if aA = true then (if aB = true then (some false) else (if (ag.length : Int) = 1 then (if 0 < (ag.length : Int) then (if ((rd_T41 ag 0).f0) = 4 then (if ((rd_T41 ag 0).f4).toList = aa.toList then (some (decide (((rd_T41 ag 0).f8) ≥ ab))) else (some false)) else (some false)) else (none)) else (some false))) else (some false)) else (some false)) = some r := by rw [if_neg (show ¬ (false = true) by decide)] at H; exact H
     clear H
     have H := H1
     clear H1
     by_cases c32 : av = true
     ·subst c32
      have H1 : (if aA = true then (if aB = true then (some false) else (if (ag.length : Int) = 1 then (if 0 < (ag.length : Int) then (if ((rd_T41 ag 0).f0) = 4 then (if ((rd_T41 ag 0).f4).toList = aa.toList then (some (decide (((rd_T41 ag 0).f8) ≥ ab))) else (some false)) else (some false)) else (none)) else (some false))) else (some false)) = some r := by rw [if_pos rfl] at H; exact H
      clear H
      have H := H1
      clear H1
      by_cases c33 : aA = true
      ·subst c33
       have H1 : (if aB = true then (some false) else (if (ag.length : Int) = 1 then (if 0 < (ag.length : Int) then (if ((rd_T41 ag 0).f0) = 4 then (if ((rd_T41 ag 0).f4).toList = aa.toList then (some (decide (((rd_T41 ag 0).f8) ≥ ab))) else (some false)) else (some false)) else (none)) else (some false))) = some r := by rw [if_pos rfl] at H; exact H
       clear H
       have H := H1
       clear H1
       by_cases c34 : aB = true
       ·subst c34
        have H1 : (some false) = some r := by rw [if_pos rfl] at H; exact H
        clear H
        have H := H1
        clear H1
        exact absurd ((Option.some.inj H).trans hlaw_.out) (by decide)
       ·replace c34 := Bool.eq_false_iff.mpr c34
        subst c34
        have H1 : (if (ag.length : Int) = 1 then (if 0 < (ag.length : Int) then (if ((rd_T41 ag 0).f0) = 4 then (if ((rd_T41 ag 0).f4).toList = aa.toList then (some (decide (((rd_T41 ag 0).f8) ≥ ab))) else (some false)) else (some false)) else (none)) else (some false)) = some r := by rw [if_neg (show ¬ (false = true) by decide)] at H; exact H
        clear H
        have H := H1
        clear H1
        by_cases c35 : (ag.length : Int) = 1
        ·rw [if_pos c35] at H
         have b5 : ((ag.length : Int) == 1) = true := beq_iff_eq.mpr c35
         have b6 : ((ag.length : Int) != 1) = false := bne_eq_false_iff_eq.mpr c35
         clear c35
         by_cases c36 : 0 < (ag.length : Int)
         ·rw [if_pos c36] at H
          have de : decide (0 < (ag.length : Int)) = true := decide_eq_true c36
          have df : decide (0 < ag.length) = true := decide_eq_true (by omega)
          clear c36
          by_cases c37 : ((rd_T41 ag 0).f0) = 4
          ·rw [if_pos c37] at H
           have b7 : (((rd_T41 ag 0).f0) == 4) = true := beq_iff_eq.mpr c37
           have b8 : (((rd_T41 ag 0).f0) != 4) = false := bne_eq_false_iff_eq.mpr c37
           clear c37
           by_cases c38 : ((rd_T41 ag 0).f4).toList = aa.toList
           ·rw [if_pos c38] at H
            have b9 : (((rd_T41 ag 0).f4).toList == aa.toList) = true := beq_iff_eq.mpr c38
            have ca : (((rd_T41 ag 0).f4).toList != aa.toList) = false := bne_eq_false_iff_eq.mpr c38
            clear c38
            clear hlaw_
            obtain rfl := Option.some.inj H
            obtain ⟨dm, dn, ck⟩ := Kd.V_slice aK.out
            subst ck
            have p464 : 0 ≤ (0 : Int) := (by omega)
            have q464 : 0 < (ag.length : Int) := of_decide_eq_true (by first | (with_reducible assumption) | assumption)
            obtain ⟨aN, e464, hx464_0, hx464_1, hx464_2, hx464_3, hx464_4, hx464_5, hx464_6, hx464_7, hx464_8⟩ := at_T41 (Kd.V_reads' aK.out).2.2 0 p464 q464
            cases e464
            have qi464 : (0 < ag.length) = True := eq_true (by omega)
            (try rw [show ((0 : Int)).toNat = 0 from rfl] at hx464_0)
            (try rw [show 0 * 9 = 0 from rfl] at hx464_0)
            (try rw [Addr.add_zero'] at hx464_0)
            (try rw [show ((0 : Int)).toNat = 0 from rfl] at hx464_1)
            (try rw [show 0 * 9 = 0 from rfl] at hx464_1)
            (try rw [Addr.add_zero'] at hx464_1)
            (try rw [show ((0 : Int)).toNat = 0 from rfl] at hx464_2)
            (try rw [show 0 * 9 = 0 from rfl] at hx464_2)
            (try rw [Addr.add_zero'] at hx464_2)
            (try rw [show ((0 : Int)).toNat = 0 from rfl] at hx464_3)
            (try rw [show 0 * 9 = 0 from rfl] at hx464_3)
            (try rw [Addr.add_zero'] at hx464_3)
            (try rw [show ((0 : Int)).toNat = 0 from rfl] at hx464_4)
            (try rw [show 0 * 9 = 0 from rfl] at hx464_4)
            (try rw [Addr.add_zero'] at hx464_4)
            (try rw [show ((0 : Int)).toNat = 0 from rfl] at hx464_5)
            (try rw [show 0 * 9 = 0 from rfl] at hx464_5)
            (try rw [Addr.add_zero'] at hx464_5)
            (try rw [show ((0 : Int)).toNat = 0 from rfl] at hx464_6)
            (try rw [show 0 * 9 = 0 from rfl] at hx464_6)
            (try rw [Addr.add_zero'] at hx464_6)
            (try rw [show ((0 : Int)).toNat = 0 from rfl] at hx464_7)
            (try rw [show 0 * 9 = 0 from rfl] at hx464_7)
            (try rw [Addr.add_zero'] at hx464_7)
            (try rw [show ((0 : Int)).toNat = 0 from rfl] at hx464_8)
            (try rw [show 0 * 9 = 0 from rfl] at hx464_8)
            (try rw [Addr.add_zero'] at hx464_8)
            replace p464 := eq_true p464
            replace q464 := eq_true q464
            have p465 : 0 ≤ (0 : Int) := (by omega)
            have q465 : 0 < (ag.length : Int) := of_decide_eq_true (by first | (with_reducible assumption) | assumption)
            obtain ⟨cb, e465, hx465_0, hx465_1, hx465_2, hx465_3, hx465_4, hx465_5, hx465_6, hx465_7, hx465_8⟩ := at_T41 (Kd.V_reads' aK.out).2.2 0 p465 q465
            obtain rfl : aN = cb := (by injection e465)
            have qi465 : (0 < ag.length) = True := eq_true (by omega)
            (try rw [show ((0 : Int)).toNat = 0 from rfl] at hx465_0)
            (try rw [show 0 * 9 = 0 from rfl] at hx465_0)
            (try rw [Addr.add_zero'] at hx465_0)
            (try rw [show ((0 : Int)).toNat = 0 from rfl] at hx465_1)
            (try rw [show 0 * 9 = 0 from rfl] at hx465_1)
            (try rw [Addr.add_zero'] at hx465_1)
            (try rw [show ((0 : Int)).toNat = 0 from rfl] at hx465_2)
            (try rw [show 0 * 9 = 0 from rfl] at hx465_2)
            (try rw [Addr.add_zero'] at hx465_2)
            (try rw [show ((0 : Int)).toNat = 0 from rfl] at hx465_3)
            (try rw [show 0 * 9 = 0 from rfl] at hx465_3)
            (try rw [Addr.add_zero'] at hx465_3)
            (try rw [show ((0 : Int)).toNat = 0 from rfl] at hx465_4)
            (try rw [show 0 * 9 = 0 from rfl] at hx465_4)
            (try rw [Addr.add_zero'] at hx465_4)
            (try rw [show ((0 : Int)).toNat = 0 from rfl] at hx465_5)
            (try rw [show 0 * 9 = 0 from rfl] at hx465_5)
            (try rw [Addr.add_zero'] at hx465_5)
            (try rw [show ((0 : Int)).toNat = 0 from rfl] at hx465_6)
            (try rw [show 0 * 9 = 0 from rfl] at hx465_6)
            (try rw [Addr.add_zero'] at hx465_6)
            (try rw [show ((0 : Int)).toNat = 0 from rfl] at hx465_7)
            (try rw [show 0 * 9 = 0 from rfl] at hx465_7)
            (try rw [Addr.add_zero'] at hx465_7)
            (try rw [show ((0 : Int)).toNat = 0 from rfl] at hx465_8)
            (try rw [show 0 * 9 = 0 from rfl] at hx465_8)
            (try rw [Addr.add_zero'] at hx465_8)
            replace p465 := eq_true p465
            replace q465 := eq_true q465
            have p466 : 0 ≤ (0 : Int) := (by omega)
            have q466 : 0 < (ag.length : Int) := of_decide_eq_true (by first | (with_reducible assumption) | assumption)
            obtain ⟨cc, e466, hx466_0, hx466_1, hx466_2, hx466_3, hx466_4, hx466_5, hx466_6, hx466_7, hx466_8⟩ := at_T41 (Kd.V_reads' aK.out).2.2 0 p466 q466
            obtain rfl : aN = cc := (by injection e466)
            have qi466 : (0 < ag.length) = True := eq_true (by omega)
            (try rw [show ((0 : Int)).toNat = 0 from rfl] at hx466_0)
            (try rw [show 0 * 9 = 0 from rfl] at hx466_0)
            (try rw [Addr.add_zero'] at hx466_0)
            (try rw [show ((0 : Int)).toNat = 0 from rfl] at hx466_1)
            (try rw [show 0 * 9 = 0 from rfl] at hx466_1)
            (try rw [Addr.add_zero'] at hx466_1)
            (try rw [show ((0 : Int)).toNat = 0 from rfl] at hx466_2)
            (try rw [show 0 * 9 = 0 from rfl] at hx466_2)
            (try rw [Addr.add_zero'] at hx466_2)
            (try rw [show ((0 : Int)).toNat = 0 from rfl] at hx466_3)
            (try rw [show 0 * 9 = 0 from rfl] at hx466_3)
            (try rw [Addr.add_zero'] at hx466_3)
            (try rw [show ((0 : Int)).toNat = 0 from rfl] at hx466_4)
            (try rw [show 0 * 9 = 0 from rfl] at hx466_4)
            (try rw [Addr.add_zero'] at hx466_4)
            (try rw [show ((0 : Int)).toNat = 0 from rfl] at hx466_5)
            (try rw [show 0 * 9 = 0 from rfl] at hx466_5)
            (try rw [Addr.add_zero'] at hx466_5)
            (try rw [show ((0 : Int)).toNat = 0 from rfl] at hx466_6)
            (try rw [show 0 * 9 = 0 from rfl] at hx466_6)
            (try rw [Addr.add_zero'] at hx466_6)
            (try rw [show ((0 : Int)).toNat = 0 from rfl] at hx466_7)
            (try rw [show 0 * 9 = 0 from rfl] at hx466_7)
            (try rw [Addr.add_zero'] at hx466_7)
            (try rw [show ((0 : Int)).toNat = 0 from rfl] at hx466_8)
            (try rw [show 0 * 9 = 0 from rfl] at hx466_8)
            (try rw [Addr.add_zero'] at hx466_8)
            replace p466 := eq_true p466
            replace q466 := eq_true q466
            go_wp2
            go_ret
            exact ⟨by first | rfl | (simp [errW_none, errW_some] <;> rfl) | (simp [*, errW_none, errW_some] <;> rfl), by repeat (first | (with_reducible first | exact HB.out | apply pA | apply pN | apply pD | refine pS ?_ aw.out | refine pS ?_ ay.out) | exact HB.out)⟩
           ·rw [if_neg c38] at H
            have b9 : (((rd_T41 ag 0).f4).toList == aa.toList) = false := beq_eq_false_iff_ne.mpr c38
            have ca : (((rd_T41 ag 0).f4).toList != aa.toList) = true := bne_iff_ne.mpr c38
            exact absurd ((Option.some.inj H).trans hlaw_.out) (by decide)
          ·rw [if_neg c37] at H
           have b7 : (((rd_T41 ag 0).f0) == 4) = false := beq_eq_false_iff_ne.mpr c37
           have b8 : (((rd_T41 ag 0).f0) != 4) = true := bne_iff_ne.mpr c37
           exact absurd ((Option.some.inj H).trans hlaw_.out) (by decide)
         ·rw [if_neg c36] at H
          exact absurd H (by simp)
        ·rw [if_neg c35] at H
         have b5 : ((ag.length : Int) == 1) = false := beq_eq_false_iff_ne.mpr c35
         have b6 : ((ag.length : Int) != 1) = true := bne_iff_ne.mpr c35
         exact absurd ((Option.some.inj H).trans hlaw_.out) (by decide)
      ·replace c33 := Bool.eq_false_iff.mpr c33
       subst c33
       have H1 : (some false) = some r := by rw [if_neg (show ¬ (false = true) by decide)] at H; exact H
       clear H
       have H := H1
       clear H1
       exact absurd ((Option.some.inj H).trans hlaw_.out) (by decide)
     ·replace c32 := Bool.eq_false_iff.mpr c32
      subst c32
      have H1 : (some false) = some r := by rw [if_neg (show ¬ (false = true) by decide)] at H; exact H
      clear H
      have H := H1
      clear H1
      exact absurd ((Option.some.inj H).trans hlaw_.out) (by decide)
 ·replace c4 := Bool.eq_false_iff.mpr c4
  subst c4
  have H1 : (some av) = some r := by rw [if_neg (show ¬ (false = true) by decide)] at H; exact H
  clear H
  have H := H1
  clear H1
  clear hlaw_
  obtain rfl := Option.some.inj H
  go_enter Try.func7, Try.ntmps7
  go_wp2_with (first | ((with_reducible refine gate_dst (N := 1) rfl ?_); (try (refine gate_guard (by rfl) ?_; dsimp only)); refine box_event ?hg (N := 1) ?hd (cs := #[.int .i64 ad, .slice ak ac.length al, .slice an ae.length ao, .slice ap af.length aq, .string aa, .bool aj, .int .i64 ab]) (t := 56) ?hr ?_; (case hd => rfl); (case hg => rfl); (case hr => first | (go_simp; done) | (go_simp; rfl)); intro am hg w40 hbox hb; have n0_ := Aside0.mk (below_step (zH HB.out) hb); have n1_ := Aside0.mk (hbox); have n2_ := Aside0.mk ((by rw [hg]; exact (below_size (zH HB.out)) : w.heap.size ≤ am)); have n3_ := Aside0.mk ((by rw [hg]; exact (below_size (zH HB.out)) : w.heap.size ≤ am)); clear HB; have HB := n0_; have ah := n1_; have b3 := n2_; have aw := n3_; clear n0_ n1_ n2_ n3_; clear hb hbox hg; obtain ⟨cl, cm, cn, co, cp, cq, cr, ct, cu, cv, cw, cx, cy, cz⟩ := bk7 ah.out) | ((with_reducible refine gate_dst (N := 3) rfl ?_); (try (refine gate_guard (by rfl) ?_; dsimp only)); refine box_event ?hg (N := 3) ?hd (cs := #[.int .i64 0, .slice none 0 0, .slice none 0 0, .slice none 0 0]) (t := 26) ?hr ?_; (case hd => rfl); (case hg => rfl); (case hr => first | (go_simp; done) | (go_simp; rfl)); intro au hg w42 hbox hb; have n0_ := Aside0.mk (blk_below (g := am) (o := .cells #[.int .i64 ad, .slice ak ac.length al, .slice an ae.length ao, .slice ap af.length aq, .string aa, .bool aj, .int .i64 ab] 56 (0, 0)) (zB ah.out) hb); have n1_ := Aside0.mk (below_step (by repeat (first | (with_reducible first | exact HB.out | apply pA | apply pN | apply pD | refine pS ?_ aw.out) | exact HB.out)) hb); have n2_ := Aside0.mk (hbox); have n3_ := Aside0.mk ((by rw [hg]; exact (below_size (by repeat (first | (with_reducible first | exact HB.out | apply pA | apply pN | apply pD | refine pS ?_ aw.out) | exact HB.out))) : w.heap.size ≤ au)); have n4_ := Aside0.mk ((by rw [hg]; exact (below_size (by repeat (first | (with_reducible first | exact HB.out | apply pA | apply pN | apply pD | refine pS ?_ aw.out) | exact HB.out))) : w.heap.size ≤ au)); have n5_ := Aside0.mk ((by rw [hg]; exact Nat.ne_of_lt (blk_lt (g := am) (o := .cells #[.int .i64 ad, .slice ak ac.length al, .slice an ae.length ao, .slice ap af.length aq, .string aa, .bool aj, .int .i64 ab] 56 (0, 0)) (zB ah.out)) : am ≠ au)); have n6_ := Aside0.mk ((by rw [hg]; exact Nat.ne_of_gt (blk_lt (g := am) (o := .cells #[.int .i64 ad, .slice ak ac.length al, .slice an ae.length ao, .slice ap af.length aq, .string aa, .bool aj, .int .i64 ab] 56 (0, 0)) (zB ah.out)) : au ≠ am)); clear ah; clear HB; have ah := n0_; have HB := n1_; have ai := n2_; have b4 := n3_; have ay := n4_; have aC := n5_; have aE := n6_; clear n0_ n1_ n2_ n3_ n4_ n5_ n6_; clear hb hbox hg; have dg := aE.out; have dh := aC.out; obtain ⟨cA, cB, cC, cD, cE, cF, cG, cH⟩ := bk4 ai.out; obtain ⟨cI, cJ, cK, cL, cM, cN, cO, cP, cQ, cR, cS, cT, cU, cV⟩ := bk7 ah.out) | ((with_reducible refine gate_callee (f := 9) rfl ?_); refine goesL_ (some 20) rfl rfl Try.func9 (by kernel_rfl) rfl #[] rfl (by (try simp only [List.map_toArray, List.map_cons, List.map_nil]); first | done | rfl | (simp only [List.length_drop, List.length_take]; rfl)) ?_; (with_reducible refine (portreevelaw16_shown.calls k  av _ A2.out).mono ?_); rintro e w46 ⟨rfl, hb⟩; refine ⟨_, rfl, ?_⟩; have n0_ := Aside0.mk (blk_below (g := am) (o := .cells #[.int .i64 ad, .slice ak ac.length al, .slice an ae.length ao, .slice ap af.length aq, .string aa, .bool aj, .int .i64 ab] 56 (0, 0)) (fB aC.out ah.out) hb); have n1_ := Aside0.mk (blk_below (g := au) (o := .cells #[.int .i64 ad, .slice ak ac.length al, .slice an ae.length ao, .slice ap af.length aq] 26 (0, 0)) (by (with_reducible repeat (first | refine qN ?_ _ | refine qD ?_ | refine qA ?_ _)); refine blk_put (cs := #[.int .i64 ad, .slice ak ac.length al, .slice an ae.length ao, .slice none 0 0]) ?_ 3 _ rfl; (with_reducible repeat (first | refine qN ?_ _ | refine qD ?_ | refine qA ?_ _)); refine blk_put (cs := #[.int .i64 ad, .slice ak ac.length al, .slice none 0 0, .slice none 0 0]) ?_ 2 _ rfl; (with_reducible repeat (first | refine qN ?_ _ | refine qD ?_ | refine qA ?_ _)); refine blk_put (cs := #[.int .i64 ad, .slice none 0 0, .slice none 0 0, .slice none 0 0]) ?_ 1 _ rfl; (with_reducible repeat (first | refine qN ?_ _ | refine qD ?_ | refine qA ?_ _)); refine blk_put (cs := #[.int .i64 0, .slice none 0 0, .slice none 0 0, .slice none 0 0]) ?_ 0 _ rfl; (with_reducible repeat (first | refine qN ?_ _ | refine qD ?_ | refine qA ?_ _)); exact ai.out) hb); have n2_ := Aside0.mk (below_step (by repeat (first | (with_reducible first | exact HB.out | apply pA | apply pN | apply pD | refine pS ?_ aw.out | refine pS ?_ ay.out) | exact HB.out)) hb); clear ah; clear ai; clear HB; have ah := n0_; have ai := n1_; have HB := n2_; clear n0_ n1_ n2_; (try clear hb); (try clear hb2); (try clear hk); (try clear hi); obtain ⟨cW, cX, cY, cZ, c0, c3, c5, c6⟩ := bk4 ai.out) | ((with_reducible refine gate_callee (f := 10) rfl ?_); refine goesL_ (some 24) rfl rfl Try.func10 (by kernel_rfl) rfl #[.agg #[.int .i64 ad, .slice ak ac.length al, .slice an ae.length ao, .slice ap af.length aq], .string aa, .int .i64 ab] rfl (by (try simp only [List.map_toArray, List.map_cons, List.map_nil]); first | done | rfl | (simp only [List.length_drop, List.length_take]; rfl)) ?_; (with_reducible refine (portreevelaw16_may.calls k ad _ _ ac _ _ ae _ _ af aa ab false _ ?side1 ?side2 ?side3 ?side4 ?side5 ?side6 A3.out).mono ?_); (case side1 => repeat (first | exact (Kd.C_below aG.out HB.out) | (with_reducible refine Kd.C_alloc ?_ _) | (with_reducible refine Kd.C_drewN ?_ _) | (with_reducible refine Kd.C_drew ?_))); (case side2 => exact HC0_1.out); (case side3 => repeat (first | exact (Kd.C_below aH.out HB.out) | (with_reducible refine Kd.C_alloc ?_ _) | (with_reducible refine Kd.C_drewN ?_ _) | (with_reducible refine Kd.C_drew ?_))); (case side4 => exact HC0_2.out); (case side5 => repeat (first | exact (Kd.C_below aI.out HB.out) | (with_reducible refine Kd.C_alloc ?_ _) | (with_reducible refine Kd.C_drewN ?_ _) | (with_reducible refine Kd.C_drew ?_))); (case side6 => exact HC0_3.out); rintro e w48 ⟨rfl, hb⟩; refine ⟨_, rfl, ?_⟩; have n0_ := Aside0.mk (blk_below (g := am) (o := .cells #[.int .i64 ad, .slice ak ac.length al, .slice an ae.length ao, .slice ap af.length aq, .string aa, .bool aj, .int .i64 ab] 56 (0, 0)) (zB ah.out) hb); have n1_ := Aside0.mk (blk_below (g := au) (o := .cells #[.int .i64 ad, .slice ak ac.length al, .slice an ae.length ao, .slice ap af.length aq] 26 (0, 0)) (zB ai.out) hb); have n2_ := Aside0.mk (below_step (by repeat (first | (with_reducible first | exact HB.out | apply pA | apply pN | apply pD | refine pS ?_ aw.out | refine pS ?_ ay.out) | exact HB.out)) hb); clear ah; clear ai; clear HB; have ah := n0_; have ai := n1_; have HB := n2_; clear n0_ n1_ n2_; (try clear hb); (try clear hb2); (try clear hk); (try clear hi)))
  go_ret
  exact ⟨by first | rfl | (simp [errW_none, errW_some] <;> rfl) | (simp [*, errW_none, errW_some] <;> rfl), by repeat (first | (with_reducible first | exact HB.out | apply pA | apply pN | apply pD | refine pS ?_ aw.out | refine pS ?_ ay.out) | exact HB.out)⟩

end Go.Proofs.Ytocjadhpaecpaaa.Q

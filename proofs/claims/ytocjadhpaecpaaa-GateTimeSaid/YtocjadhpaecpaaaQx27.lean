-- written by this session's own program (wip/tools/myprint.py), over the kit's print
import Derived.Test.YtocjadhpaecpaaaQx0
import Derived.Test.YtocjadhpaecpaaaQx6
import Derived.Test.YtocjadhpaecpaaaQx7
import Derived.Test.YtocjadhpaecpaaaQx11
import Derived.Test.YtocjadhpaecpaaaQx18
namespace Go.Proofs.Ytocjadhpaecpaaa.Q
open Go.RowKit Go.Proofs.YtocjadhpaecpaaaW.PrintWords Go.Proofs.YtocjadhpaecpaaaW.PrintLast Go.Proofs.YtocjadhpaecpaaaW.PrintMore
open Go.Proofs.YtocjadhpaecpaaaV
attribute [local go_sem] max2_int min2_int max_two min_two max_three min_three max_four min_four   -- for this text's walks alone
set_option linter.unusedVariables false
set_option linter.unusedSimpArgs false

/-! ### portreevelaw16_GateTime: function 5 -/
def portreevelaw16_GateTime.j0 : Nat → ByteArray → Int → Int → Bool → Bool → Int → List (S76) → List (S72) → List (S64) → Option (Bool)
 | 0, _, _, _, _, _, _, _, _, _ => none
 | k + 1, x4, x5, x6, x7, x29, x404000, x404001, x404002, x404003 => if x29 = true then (some x7) else ((gate_Failed.f x404000 x404001 x404002 x404003 x4).bind fun bt406 => ((gate_Locked.f x404000 x404001 x404002 x404003 x4 x5).bind fun t408 => ((gate_Locked.f x404000 x404001 x404002 x404003 x4 (wrap64 (x5 + (wrap64 (x6))))).bind fun t409 => (if x7 = true then (if t408 = true then (if bt406.1 ≥ 3 then ((gate_Until.f x404000 x404001 x404002 x404003 x4).bind fun t410 => (some (t408 == (decide (x5 < t410))))) else (some false)) else (if t409 = true then (some false) else (if bt406.1 ≥ 3 then ((gate_Until.f x404000 x404001 x404002 x404003 x4).bind fun t411 => (some (t408 == (decide (x5 < t411))))) else ((gate_Until.f x404000 x404001 x404002 x404003 x4).bind fun t412 => (some (t408 == (decide (x5 < t412)))))))) else (some false)))))
def portreevelaw16_GateTime.f (k : Nat) (a0_0 : Int) (l0_1 : List (S76)) (l0_2 : List (S72)) (l0_3 : List (S64)) (a0_4 : ByteArray) (a0_5 : Int) (a0_6 : Int) : Option (Bool) := (portreevelaw16_shown.f k).bind fun t404 => ((portreevelaw16_may.f k a0_0 l0_1 l0_2 l0_3 a0_4 a0_5).bind fun t405 => (if t405 = true then (portreevelaw16_GateTime.j0 k a0_4 a0_5 a0_6 t404 (decide (a0_5 > 999930000)) a0_0 l0_1 l0_2 l0_3) else (portreevelaw16_GateTime.j0 k a0_4 a0_5 a0_6 t404 true a0_0 l0_1 l0_2 l0_3)))
theorem portreevelaw16_GateTime.mono_l : ∀ k, (∀ y0 y1 y2 y3 y4 y5 y6 y7 y8, LeO (portreevelaw16_GateTime.j0 k y0 y1 y2 y3 y4 y5 y6 y7 y8) (portreevelaw16_GateTime.j0 (k + 1) y0 y1 y2 y3 y4 y5 y6 y7 y8))
 | 0 => fun _ _ _ _ _ _ _ _ _ r h => by simp [portreevelaw16_GateTime.j0] at h
 | k + 1 => by
  have ih0 := portreevelaw16_GateTime.mono_l k
  ·intro y0 y1 y2 y3 y4 y5 y6 y7 y8
   unfold portreevelaw16_GateTime.j0
   repeat' first
   | (with_reducible exact ih0 _ _ _ _ _ _ _ _ _)
   | (with_reducible exact portreevelaw16_may.mono _ _ _ _ _ _ _)
   | (with_reducible exact portreevelaw16_shown.mono _)
   | (with_reducible exact LeO.refl _)
   | (with_reducible exact LeO.none _)
   | (with_reducible refine LeO.ite ?_ ?_)
   | (with_reducible refine LeO.bind ?_ (fun _ => ?_))
   | exact ih0 _ _ _ _ _ _ _ _ _
   | exact portreevelaw16_may.mono _ _ _ _ _ _ _
   | exact portreevelaw16_shown.mono _
   | exact LeO.none _
   | refine LeO.ite ?_ ?_
   | refine LeO.bind ?_ (fun _ => ?_)
theorem portreevelaw16_GateTime.mono : ∀ a0 a1 a2 a3 a4 a5 a6 k, LeO (portreevelaw16_GateTime.f k a0 a1 a2 a3 a4 a5 a6) (portreevelaw16_GateTime.f (k + 1) a0 a1 a2 a3 a4 a5 a6) := by
 intro a0 a1 a2 a3 a4 a5 a6 k
 have ih0 := portreevelaw16_GateTime.mono_l k
 unfold portreevelaw16_GateTime.f
 repeat' first
   | (with_reducible exact ih0 _ _ _ _ _ _ _ _ _)
   | (with_reducible exact portreevelaw16_may.mono _ _ _ _ _ _ _)
   | (with_reducible exact portreevelaw16_shown.mono _)
   | (with_reducible exact LeO.refl _)
   | (with_reducible exact LeO.none _)
   | (with_reducible refine LeO.ite ?_ ?_)
   | (with_reducible refine LeO.bind ?_ (fun _ => ?_))
   | exact ih0 _ _ _ _ _ _ _ _ _
   | exact portreevelaw16_may.mono _ _ _ _ _ _ _
   | exact portreevelaw16_shown.mono _
   | exact LeO.none _
   | refine LeO.ite ?_ ?_
   | refine LeO.bind ?_ (fun _ => ?_)
set_option maxHeartbeats 8000000 in
set_option maxRecDepth 100000 in
theorem portreevelaw16_GateTime.calls (k : Nat) (ac : Int) (ai : Option Addr) (aj : Nat) (aa : List (S76)) (ak : Option Addr) (al : Nat) (ab : List (S72)) (am : Option Addr) (an : Nat) (ad : List (S64)) (ae : ByteArray) (af : Int) (ao : Int) (r : Bool) (w : World) (hlaw_ : Aside0 (r = true)) (hr0_1 : Kd.C k76 w ai aa.length aa) (hc0_1 : aa.length ≤ aj) (hr0_2 : Kd.C k72 w ak ab.length ab) (hc0_2 : ab.length ≤ al) (hr0_3 : Kd.C k64 w am ad.length ad) (hc0_3 : ad.length ≤ an) (h : portreevelaw16_GateTime.f k ac aa ab ad ae af ao = some r) :
  Calls Try.prog 5 #[.agg #[.int .i64 ac, .slice ai aa.length aj, .slice ak ab.length al, .slice am ad.length an, .string ae, .int .i64 af, .int .u16 ao]] w fun e w' => e = .returned (.bool r) ∧ Below w.heap.size w w' := by
 have hu49 := Try.underlying49
 have hu26 := Try.underlying26
 have ax := Aside0.mk hr0_1
 have HC0_1 := Aside0.mk hc0_1
 clear hr0_1 hc0_1
 have ay := Aside0.mk hr0_2
 have HC0_2 := Aside0.mk hc0_2
 clear hr0_2 hc0_2
 have az := Aside0.mk hr0_3
 have HC0_3 := Aside0.mk hc0_3
 clear hr0_3 hc0_3
 have HB := Aside0.mk (Below.refl w.heap.size w)
 have H : ((portreevelaw16_shown.f k).bind fun aA => ((portreevelaw16_may.f k ac aa ab ad ae af).bind fun aH => (if aH = true then (portreevelaw16_GateTime.j0 k ae af ao aA (decide (af > 999930000)) ac aa ab ad) else (portreevelaw16_GateTime.j0 k ae af ao aA true ac aa ab ad)))) = some r := h
 clear h
 replace H := Option.bind_eq_some_iff.mp H
 obtain ⟨aA, aJ, H⟩ := H
 replace H : ((portreevelaw16_may.f k ac aa ab ad ae af).bind fun aH => (if aH = true then (portreevelaw16_GateTime.j0 k ae af ao aA (decide (af > 999930000)) ac aa ab ad) else (portreevelaw16_GateTime.j0 k ae af ao aA true ac aa ab ad))) = some r := H
 have A2 := Aside0.mk aJ
 clear aJ
 have HC3 := Aside0.mk H
 clear H
 go_enter Try.func5, Try.ntmps5
 go_upto_region 6 with (first | ((with_reducible refine gate_dst (N := 1) rfl ?_); refine box_event ?hg (N := 1) ?hd (cs := #[.int .i64 ac, .slice ai aa.length aj, .slice ak ab.length al, .slice am ad.length an, .string ae, .int .i64 af, .int .u16 ao]) (t := 49) ?hr ?_; (case hd => rfl); (case hg => rfl); (case hr => first | (go_simp; done) | (go_simp; rfl)); intro aq hg w4 hbox hb; have n0_ := Aside0.mk (below_step (zH HB.out) hb); have n1_ := Aside0.mk (hbox); have n2_ := Aside0.mk ((by rw [hg]; exact (below_size (zH HB.out)) : w.heap.size ≤ aq)); have n3_ := Aside0.mk ((by rw [hg]; exact (below_size (zH HB.out)) : w.heap.size ≤ aq)); clear HB; have HB := n0_; have ah := n1_; have dD := n2_; have ap := n3_; clear n0_ n1_ n2_ n3_; clear hb hbox hg; obtain ⟨a9, ba, bb, bc, bd, be, bf, bg, bh, bi, bj, bk, bl, bm⟩ := bk7 ah.out) | ((with_reducible refine gate_dst (N := 3) rfl ?_); refine box_event ?hg (N := 3) ?hd (cs := #[.int .i64 0, .slice none 0 0, .slice none 0 0, .slice none 0 0]) (t := 26) ?hr ?_; (case hd => rfl); (case hg => rfl); (case hr => first | (go_simp; done) | (go_simp; rfl)); intro au hg w6 hbox hb; have n0_ := Aside0.mk (blk_below (g := aq) (o := .cells #[.int .i64 ac, .slice ai aa.length aj, .slice ak ab.length al, .slice am ad.length an, .string ae, .int .i64 af, .int .u16 ao] 49 (0, 0)) (zB ah.out) hb); have n1_ := Aside0.mk (below_step (by repeat (first | (with_reducible first | exact HB.out | apply pA | apply pN | apply pD | refine pS ?_ ap.out) | exact HB.out)) hb); have n2_ := Aside0.mk (hbox); have n3_ := Aside0.mk ((by rw [hg]; exact (below_size (by repeat (first | (with_reducible first | exact HB.out | apply pA | apply pN | apply pD | refine pS ?_ ap.out) | exact HB.out))) : w.heap.size ≤ au)); have n4_ := Aside0.mk ((by rw [hg]; exact (below_size (by repeat (first | (with_reducible first | exact HB.out | apply pA | apply pN | apply pD | refine pS ?_ ap.out) | exact HB.out))) : w.heap.size ≤ au)); have n5_ := Aside0.mk ((by rw [hg]; exact Nat.ne_of_lt (blk_lt (g := aq) (o := .cells #[.int .i64 ac, .slice ai aa.length aj, .slice ak ab.length al, .slice am ad.length an, .string ae, .int .i64 af, .int .u16 ao] 49 (0, 0)) (zB ah.out)) : aq ≠ au)); have n6_ := Aside0.mk ((by rw [hg]; exact Nat.ne_of_gt (blk_lt (g := aq) (o := .cells #[.int .i64 ac, .slice ai aa.length aj, .slice ak ab.length al, .slice am ad.length an, .string ae, .int .i64 af, .int .u16 ao] 49 (0, 0)) (zB ah.out)) : au ≠ aq)); clear ah; clear HB; have ah := n0_; have HB := n1_; have ag := n2_; have dE := n3_; have ar := n4_; have aB := n5_; have aE := n6_; clear n0_ n1_ n2_ n3_ n4_ n5_ n6_; clear hb hbox hg; have dP := aE.out; have dQ := aB.out; obtain ⟨bn, bo, bp, bq, br, bs, bt, bu⟩ := bk4 ag.out; obtain ⟨bv, bw, bx, bz, bA, bB, bC, bD, bE, bF, bG, bH, bI, bJ⟩ := bk7 ah.out) | ((with_reducible refine gate_callee (f := 9) rfl ?_); refine goesL_ (some 20) rfl rfl Try.func9 (by kernel_rfl) rfl #[] rfl (by (try simp only [List.map_toArray, List.map_cons, List.map_nil]); first | done | rfl | (simp only [List.length_drop, List.length_take]; rfl)) ?_; (with_reducible refine (portreevelaw16_shown.calls k  aA _ A2.out).mono ?_); rintro e w10 ⟨rfl, hb⟩; refine ⟨_, rfl, ?_⟩; have n0_ := Aside0.mk (blk_below (g := aq) (o := .cells #[.int .i64 ac, .slice ai aa.length aj, .slice ak ab.length al, .slice am ad.length an, .string ae, .int .i64 af, .int .u16 ao] 49 (0, 0)) (fB aB.out ah.out) hb); have n1_ := Aside0.mk (blk_below (g := au) (o := .cells #[.int .i64 ac, .slice ai aa.length aj, .slice ak ab.length al, .slice am ad.length an] 26 (0, 0)) (by (with_reducible repeat (first | refine qN ?_ _ | refine qD ?_ | refine qA ?_ _)); refine blk_put (cs := #[.int .i64 ac, .slice ai aa.length aj, .slice ak ab.length al, .slice none 0 0]) ?_ 3 _ rfl; (with_reducible repeat (first | refine qN ?_ _ | refine qD ?_ | refine qA ?_ _)); refine blk_put (cs := #[.int .i64 ac, .slice ai aa.length aj, .slice none 0 0, .slice none 0 0]) ?_ 2 _ rfl; (with_reducible repeat (first | refine qN ?_ _ | refine qD ?_ | refine qA ?_ _)); refine blk_put (cs := #[.int .i64 ac, .slice none 0 0, .slice none 0 0, .slice none 0 0]) ?_ 1 _ rfl; (with_reducible repeat (first | refine qN ?_ _ | refine qD ?_ | refine qA ?_ _)); refine blk_put (cs := #[.int .i64 0, .slice none 0 0, .slice none 0 0, .slice none 0 0]) ?_ 0 _ rfl; (with_reducible repeat (first | refine qN ?_ _ | refine qD ?_ | refine qA ?_ _)); exact ag.out) hb); have n2_ := Aside0.mk (below_step (by repeat (first | (with_reducible first | exact HB.out | apply pA | apply pN | apply pD | refine pS ?_ ap.out | refine pS ?_ ar.out) | exact HB.out)) hb); clear ah; clear ag; clear HB; have ah := n0_; have ag := n1_; have HB := n2_; clear n0_ n1_ n2_; (try clear hb); (try clear hb2); (try clear hk); (try clear hi)))
 (try simp only [Act.put, sT, s0, s1])
 go_cut [29] (fun v29 wc => ∃ (kq : Nat) (aI : Bool), v29 = .bool aI ∧ Aside0 (portreevelaw16_GateTime.j0 kq ae af ao aA aI ac aa ab ad = some r) ∧ Aside0 (kq ≤ k) ∧ Aside0 (wc.heap[aq]? = some (.cells #[.int .i64 ac, (.slice ai aa.length aj), (.slice ak ab.length al), (.slice am ad.length an), .string ae, .int .i64 af, .int .u16 ao] 49 (0, 0))) ∧ Aside0 (wc.heap[au]? = some (.cells #[.int .i64 ac, (.slice ai aa.length aj), (.slice ak ab.length al), (.slice am ad.length an)] 26 (0, 0))) ∧ Aside0 (Below w.heap.size w wc))
 case first =>
  have H := HC3.out
  clear HC3
  replace H := Option.bind_eq_some_iff.mp H
  obtain ⟨aH, bK, H⟩ := H
  replace H : (if aH = true then (portreevelaw16_GateTime.j0 k ae af ao aA (decide (af > 999930000)) ac aa ab ad) else (portreevelaw16_GateTime.j0 k ae af ao aA true ac aa ab ad)) = some r := H
  have bV := Aside0.mk bK
  clear bK
  by_cases c12 : aH = true
  ·subst c12
   have H1 : (portreevelaw16_GateTime.j0 k ae af ao aA (decide (af > 999930000)) ac aa ab ad) = some r := by rw [if_pos rfl] at H; exact H
   clear H
   have H := H1
   clear H1
   have H' := Aside0.mk H
   clear H
   have dF := aE.out
   have dG := aB.out
   obtain ⟨aM, aN, aO, aP, aQ, aR, aS, aT⟩ := bk4 ag.out
   go_wp2_with (first | ((with_reducible refine gate_callee (f := 10) rfl ?_); refine goesL_ (some 24) rfl rfl Try.func10 (by kernel_rfl) rfl #[.agg #[.int .i64 ac, .slice ai aa.length aj, .slice ak ab.length al, .slice am ad.length an], .string ae, .int .i64 af] rfl (by (try simp only [List.map_toArray, List.map_cons, List.map_nil]); first | done | rfl | (simp only [List.length_drop, List.length_take]; rfl)) ?_; (with_reducible refine (portreevelaw16_may.calls k ac _ _ aa _ _ ab _ _ ad ae af true _ ?side1 ?side2 ?side3 ?side4 ?side5 ?side6 bV.out).mono ?_); (case side1 => repeat (first | exact (Kd.C_below ax.out HB.out) | (with_reducible refine Kd.C_alloc ?_ _) | (with_reducible refine Kd.C_drewN ?_ _) | (with_reducible refine Kd.C_drew ?_))); (case side2 => exact HC0_1.out); (case side3 => repeat (first | exact (Kd.C_below ay.out HB.out) | (with_reducible refine Kd.C_alloc ?_ _) | (with_reducible refine Kd.C_drewN ?_ _) | (with_reducible refine Kd.C_drew ?_))); (case side4 => exact HC0_2.out); (case side5 => repeat (first | exact (Kd.C_below az.out HB.out) | (with_reducible refine Kd.C_alloc ?_ _) | (with_reducible refine Kd.C_drewN ?_ _) | (with_reducible refine Kd.C_drew ?_))); (case side6 => exact HC0_3.out); rintro e w15 ⟨rfl, hb⟩; refine ⟨_, rfl, ?_⟩; have n0_ := Aside0.mk (blk_below (g := aq) (o := .cells #[.int .i64 ac, .slice ai aa.length aj, .slice ak ab.length al, .slice am ad.length an, .string ae, .int .i64 af, .int .u16 ao] 49 (0, 0)) (zB ah.out) hb); have n1_ := Aside0.mk (blk_below (g := au) (o := .cells #[.int .i64 ac, .slice ai aa.length aj, .slice ak ab.length al, .slice am ad.length an] 26 (0, 0)) (zB ag.out) hb); have n2_ := Aside0.mk (below_step (by repeat (first | (with_reducible first | exact HB.out | apply pA | apply pN | apply pD | refine pS ?_ ap.out | refine pS ?_ ar.out) | exact HB.out)) hb); clear ah; clear ag; clear HB; have ah := n0_; have ag := n1_; have HB := n2_; clear n0_ n1_ n2_; (try clear hb); (try clear hb2); (try clear hk); (try clear hi)))
   go_meet
   case rel => exact ⟨_, (decide (af > 999930000)), (by first | rfl | (simp; done) | (simp [*]; done)), H', ⟨by first | omega | exact Nat.le_refl _⟩, ⟨zB ah.out⟩, ⟨zB ag.out⟩, ⟨by repeat (first | (with_reducible first | exact HB.out | apply pA | apply pN | apply pD | refine pS ?_ ap.out | refine pS ?_ ar.out) | exact HB.out)⟩⟩
  ·replace c12 := Bool.eq_false_iff.mpr c12
   subst c12
   have H1 : (portreevelaw16_GateTime.j0 k ae af ao aA true ac aa ab ad) = some r := by rw [if_neg (show ¬ (false = true) by decide)] at H; exact H
   clear H
   have H := H1
   clear H1
   have H' := Aside0.mk H
   clear H
   have dH := aE.out
   have dI := aB.out
   obtain ⟨aU, aV, aW, aX, aY, aZ, a7, a8⟩ := bk4 ag.out
   go_wp2_with (first | ((with_reducible refine gate_callee (f := 10) rfl ?_); refine goesL_ (some 24) rfl rfl Try.func10 (by kernel_rfl) rfl #[.agg #[.int .i64 ac, .slice ai aa.length aj, .slice ak ab.length al, .slice am ad.length an], .string ae, .int .i64 af] rfl (by (try simp only [List.map_toArray, List.map_cons, List.map_nil]); first | done | rfl | (simp only [List.length_drop, List.length_take]; rfl)) ?_; (with_reducible refine (portreevelaw16_may.calls k ac _ _ aa _ _ ab _ _ ad ae af false _ ?side1 ?side2 ?side3 ?side4 ?side5 ?side6 bV.out).mono ?_); (case side1 => repeat (first | exact (Kd.C_below ax.out HB.out) | (with_reducible refine Kd.C_alloc ?_ _) | (with_reducible refine Kd.C_drewN ?_ _) | (with_reducible refine Kd.C_drew ?_))); (case side2 => exact HC0_1.out); (case side3 => repeat (first | exact (Kd.C_below ay.out HB.out) | (with_reducible refine Kd.C_alloc ?_ _) | (with_reducible refine Kd.C_drewN ?_ _) | (with_reducible refine Kd.C_drew ?_))); (case side4 => exact HC0_2.out); (case side5 => repeat (first | exact (Kd.C_below az.out HB.out) | (with_reducible refine Kd.C_alloc ?_ _) | (with_reducible refine Kd.C_drewN ?_ _) | (with_reducible refine Kd.C_drew ?_))); (case side6 => exact HC0_3.out); rintro e w18 ⟨rfl, hb⟩; refine ⟨_, rfl, ?_⟩; have n0_ := Aside0.mk (blk_below (g := aq) (o := .cells #[.int .i64 ac, .slice ai aa.length aj, .slice ak ab.length al, .slice am ad.length an, .string ae, .int .i64 af, .int .u16 ao] 49 (0, 0)) (zB ah.out) hb); have n1_ := Aside0.mk (blk_below (g := au) (o := .cells #[.int .i64 ac, .slice ai aa.length aj, .slice ak ab.length al, .slice am ad.length an] 26 (0, 0)) (zB ag.out) hb); have n2_ := Aside0.mk (below_step (by repeat (first | (with_reducible first | exact HB.out | apply pA | apply pN | apply pD | refine pS ?_ ap.out | refine pS ?_ ar.out) | exact HB.out)) hb); clear ah; clear ag; clear HB; have ah := n0_; have ag := n1_; have HB := n2_; clear n0_ n1_ n2_; (try clear hb); (try clear hb2); (try clear hk); (try clear hi)))
   go_meet
   case rel => exact ⟨_, (true), (by first | rfl | (simp; done) | (simp [*]; done)), H', ⟨by first | omega | exact Nat.le_refl _⟩, ⟨zB ah.out⟩, ⟨zB ag.out⟩, ⟨by repeat (first | (with_reducible first | exact HB.out | apply pA | apply pN | apply pD | refine pS ?_ ap.out | refine pS ?_ ar.out) | exact HB.out)⟩⟩
 case rest =>
  clear HC3
  try clear c1
  try clear p2
  try clear c5
  try clear c7
  try clear c9
  try clear c10
  try clear c12
  try clear c13
  try clear c16
  try clear aM
  try clear aN
  try clear aO
  try clear aP
  try clear aU
  try clear aV
  try clear aW
  try clear aX
  try clear a9
  try clear ba
  try clear bb
  try clear bc
  try clear bd
  try clear be
  try clear bf
  try clear bn
  try clear bo
  try clear bp
  try clear bq
  try clear bv
  try clear bw
  try clear bx
  try clear bz
  try clear bA
  try clear bB
  try clear bC
  try clear aQ
  try clear aR
  try clear aS
  try clear aT
  try clear aY
  try clear aZ
  try clear a7
  try clear a8
  try clear bg
  try clear bh
  try clear bi
  try clear bj
  try clear bk
  try clear bl
  try clear bm
  try clear br
  try clear bs
  try clear bt
  try clear bu
  try clear bD
  try clear bE
  try clear bF
  try clear bG
  try clear bH
  try clear bI
  try clear bJ
  obtain ⟨kq, aI, rfl, HA, dR, ah, ag, HB⟩ := hcut
  cases kq with
  | zero => exact absurd HA.out (by simp [portreevelaw16_GateTime.j0])
  | succ dS =>
   have H := HA.out
   clear HA
   simp only [portreevelaw16_GateTime.j0] at H
   by_cases c19 : aI = true
   ·subst c19
    have H1 : (some aA) = some r := by rw [if_pos rfl] at H; exact H
    clear H
    have H := H1
    clear H1
    clear hlaw_
    obtain rfl := Option.some.inj H
    go_wp2
    go_ret
    exact ⟨by first | rfl | (simp [errW_none, errW_some] <;> rfl) | (simp [*, errW_none, errW_some] <;> rfl), by repeat (first | (with_reducible first | exact HB.out | apply pA | apply pN | apply pD | refine pS ?_ ap.out | refine pS ?_ ar.out) | exact HB.out)⟩
   ·replace c19 := Bool.eq_false_iff.mpr c19
    subst c19
    have H1 : ((gate_Failed.f ac aa ab ad ae).bind fun aL => ((gate_Locked.f ac aa ab ad ae af).bind fun av => ((gate_Locked.f ac aa ab ad ae (wrap64 (af + (wrap64 (ao))))).bind fun aG => (if aA = true then (if av = true then (if aL.1 ≥ 3 then ((gate_Until.f ac aa ab ad ae).bind fun aF => (some (av == (decide (af < aF))))) else (some false)) else (if aG = true then (some false) else (if aL.1 ≥ 3 then ((gate_Until.f ac aa ab ad ae).bind fun aC => (some (av == (decide (af < aC))))) else ((gate_Until.f ac aa ab ad ae).bind fun aD => (some (av == (decide (af < aD)))))))) else (some false))))) = some r := by rw [if_neg (show ¬ (false = true) by decide)] at H; exact H
    clear H
    have H := H1
    clear H1
    replace H := Option.bind_eq_some_iff.mp H
    obtain ⟨⟨aw, aK⟩, bL, H⟩ := H
    replace H : ((gate_Locked.f ac aa ab ad ae af).bind fun av => ((gate_Locked.f ac aa ab ad ae (wrap64 (af + (wrap64 (ao))))).bind fun aG => (if aA = true then (if av = true then (if aw ≥ 3 then ((gate_Until.f ac aa ab ad ae).bind fun aF => (some (av == (decide (af < aF))))) else (some false)) else (if aG = true then (some false) else (if aw ≥ 3 then ((gate_Until.f ac aa ab ad ae).bind fun aC => (some (av == (decide (af < aC))))) else ((gate_Until.f ac aa ab ad ae).bind fun aD => (some (av == (decide (af < aD)))))))) else (some false)))) = some r := H
    have aJ := Aside0.mk bL
    clear bL
    replace H := Option.bind_eq_some_iff.mp H
    obtain ⟨av, bM, H⟩ := H
    replace H : ((gate_Locked.f ac aa ab ad ae (wrap64 (af + (wrap64 (ao))))).bind fun aG => (if aA = true then (if av = true then (if aw ≥ 3 then ((gate_Until.f ac aa ab ad ae).bind fun aF => (some (av == (decide (af < aF))))) else (some false)) else (if aG = true then (some false) else (if aw ≥ 3 then ((gate_Until.f ac aa ab ad ae).bind fun aC => (some (av == (decide (af < aC))))) else ((gate_Until.f ac aa ab ad ae).bind fun aD => (some (av == (decide (af < aD)))))))) else (some false))) = some r := H
    have bN := Aside0.mk bM
    clear bM
    replace H := Option.bind_eq_some_iff.mp H
    obtain ⟨aG, bO, H⟩ := H
    replace H : (if aA = true then (if av = true then (if aw ≥ 3 then ((gate_Until.f ac aa ab ad ae).bind fun aF => (some (av == (decide (af < aF))))) else (some false)) else (if aG = true then (some false) else (if aw ≥ 3 then ((gate_Until.f ac aa ab ad ae).bind fun aC => (some (av == (decide (af < aC))))) else ((gate_Until.f ac aa ab ad ae).bind fun aD => (some (av == (decide (af < aD)))))))) else (some false)) = some r := H
    have bP := Aside0.mk bO
    clear bO
    by_cases c23 : aA = true
    ·subst c23
     have H1 : (if av = true then (if aw ≥ 3 then ((gate_Until.f ac aa ab ad ae).bind fun aF => (some (av == (decide (af < aF))))) else (some false)) else (if aG = true then (some false) else (if aw ≥ 3 then ((gate_Until.f ac aa ab ad ae).bind fun aC => (some (av == (decide (af < aC))))) else ((gate_Until.f ac aa ab ad ae).bind fun aD => (some (av == (decide (af < aD)))))))) = some r := by rw [if_pos rfl] at H; exact H
     clear H
     have H := H1
     clear H1
     by_cases c24 : av = true
     ·subst c24
      have H1 : (if aw ≥ 3 then ((gate_Until.f ac aa ab ad ae).bind fun aF => (some (true == (decide (af < aF))))) else (some false)) = some r := by rw [if_pos rfl] at H; exact H
      clear H
      have H := H1
      clear H1
      by_cases c25 : aw ≥ 3
      ·rw [if_pos c25] at H
       have bT : decide (3 ≤ aw) = true := decide_eq_true c25
       clear c25
       replace H := Option.bind_eq_some_iff.mp H
       obtain ⟨aF, bQ, H⟩ := H
       replace H : (some (true == (decide (af < aF)))) = some r := H
       have dA := Aside0.mk bQ
       clear bQ
       clear hlaw_
       obtain rfl := Option.some.inj H
       have dJ := aE.out
       have dK := aB.out
       obtain ⟨bW, bX, bY, bZ, b0, b1, b2, b3⟩ := bk4 ag.out
       go_wp2_with (first | ((with_reducible refine gate_callee (f := 12) rfl ?_); refine goesL_ (some 34) rfl rfl Try.func12 (by kernel_rfl) rfl #[.agg #[.int .i64 ac, .slice ai aa.length aj, .slice ak ab.length al, .slice am ad.length an], .string ae] rfl (by (try simp only [List.map_toArray, List.map_cons, List.map_nil]); first | done | rfl | (simp only [List.length_drop, List.length_take]; rfl)) ?_; (with_reducible refine (gate_Failed.calls ac _ _ aa _ _ ab _ _ ad ae aw aK _ ?side1 ?side2 ?side3 ?side4 ?side5 ?side6 aJ.out).mono ?_); (case side1 => repeat (first | exact (Kd.C_below ax.out HB.out) | (with_reducible refine Kd.C_alloc ?_ _) | (with_reducible refine Kd.C_drewN ?_ _) | (with_reducible refine Kd.C_drew ?_))); (case side2 => exact HC0_1.out); (case side3 => repeat (first | exact (Kd.C_below ay.out HB.out) | (with_reducible refine Kd.C_alloc ?_ _) | (with_reducible refine Kd.C_drewN ?_ _) | (with_reducible refine Kd.C_drew ?_))); (case side4 => exact HC0_2.out); (case side5 => repeat (first | exact (Kd.C_below az.out HB.out) | (with_reducible refine Kd.C_alloc ?_ _) | (with_reducible refine Kd.C_drewN ?_ _) | (with_reducible refine Kd.C_drew ?_))); (case side6 => exact HC0_3.out); rintro e w29 ⟨rfl, hb⟩; refine ⟨_, rfl, ?_⟩; have n0_ := Aside0.mk (blk_below (g := aq) (o := .cells #[.int .i64 ac, .slice ai aa.length aj, .slice ak ab.length al, .slice am ad.length an, .string ae, .int .i64 af, .int .u16 ao] 49 (0, 0)) (zB ah.out) hb); have n1_ := Aside0.mk (blk_below (g := au) (o := .cells #[.int .i64 ac, .slice ai aa.length aj, .slice ak ab.length al, .slice am ad.length an] 26 (0, 0)) (zB ag.out) hb); have n2_ := Aside0.mk (below_step (by repeat (first | (with_reducible first | exact HB.out | apply pA | apply pN | apply pD | refine pS ?_ ap.out | refine pS ?_ ar.out) | exact HB.out)) hb); clear ah; clear ag; clear HB; have ah := n0_; have ag := n1_; have HB := n2_; clear n0_ n1_ n2_; (try clear hb); (try clear hb2); (try clear hk); (try clear hi); obtain ⟨b4, b5, b6, b7, b8, b9, ca, cb⟩ := bk4 ag.out) | ((with_reducible refine gate_callee (f := 13) rfl ?_); refine goesL_ (some 40) rfl rfl Try.func13 (by kernel_rfl) rfl #[.agg #[.int .i64 ac, .slice ai aa.length aj, .slice ak ab.length al, .slice am ad.length an], .string ae, .int .i64 af] rfl (by (try simp only [List.map_toArray, List.map_cons, List.map_nil]); first | done | rfl | (simp only [List.length_drop, List.length_take]; rfl)) ?_; (with_reducible refine (gate_Locked.calls ac _ _ aa _ _ ab _ _ ad ae af true _ ?side1 ?side2 ?side3 ?side4 ?side5 ?side6 bN.out).mono ?_); (case side1 => repeat (first | exact (Kd.C_below ax.out HB.out) | (with_reducible refine Kd.C_alloc ?_ _) | (with_reducible refine Kd.C_drewN ?_ _) | (with_reducible refine Kd.C_drew ?_))); (case side2 => exact HC0_1.out); (case side3 => repeat (first | exact (Kd.C_below ay.out HB.out) | (with_reducible refine Kd.C_alloc ?_ _) | (with_reducible refine Kd.C_drewN ?_ _) | (with_reducible refine Kd.C_drew ?_))); (case side4 => exact HC0_2.out); (case side5 => repeat (first | exact (Kd.C_below az.out HB.out) | (with_reducible refine Kd.C_alloc ?_ _) | (with_reducible refine Kd.C_drewN ?_ _) | (with_reducible refine Kd.C_drew ?_))); (case side6 => exact HC0_3.out); rintro e w31 ⟨rfl, hb⟩; refine ⟨_, rfl, ?_⟩; have n0_ := Aside0.mk (blk_below (g := aq) (o := .cells #[.int .i64 ac, .slice ai aa.length aj, .slice ak ab.length al, .slice am ad.length an, .string ae, .int .i64 af, .int .u16 ao] 49 (0, 0)) (zB ah.out) hb); have n1_ := Aside0.mk (blk_below (g := au) (o := .cells #[.int .i64 ac, .slice ai aa.length aj, .slice ak ab.length al, .slice am ad.length an] 26 (0, 0)) (zB ag.out) hb); have n2_ := Aside0.mk (below_step (by repeat (first | (with_reducible first | exact HB.out | apply pA | apply pN | apply pD | refine pS ?_ ap.out | refine pS ?_ ar.out) | exact HB.out)) hb); clear ah; clear ag; clear HB; have ah := n0_; have ag := n1_; have HB := n2_; clear n0_ n1_ n2_; (try clear hb); (try clear hb2); (try clear hk); (try clear hi); obtain ⟨cc, cd, ce, cf, cg, ch, ci, cj⟩ := bk4 ag.out) | ((with_reducible refine gate_callee (f := 13) rfl ?_); refine goesL_ (some 47) rfl rfl Try.func13 (by kernel_rfl) rfl #[.agg #[.int .i64 ac, .slice ai aa.length aj, .slice ak ab.length al, .slice am ad.length an], .string ae, .int .i64 (wrap64 (af + (wrap64 (ao))))] rfl (by (try simp only [List.map_toArray, List.map_cons, List.map_nil]); first | done | rfl | (simp only [List.length_drop, List.length_take]; rfl)) ?_; (with_reducible refine (gate_Locked.calls ac _ _ aa _ _ ab _ _ ad ae (wrap64 (af + (wrap64 (ao)))) aG _ ?side1 ?side2 ?side3 ?side4 ?side5 ?side6 bP.out).mono ?_); (case side1 => repeat (first | exact (Kd.C_below ax.out HB.out) | (with_reducible refine Kd.C_alloc ?_ _) | (with_reducible refine Kd.C_drewN ?_ _) | (with_reducible refine Kd.C_drew ?_))); (case side2 => exact HC0_1.out); (case side3 => repeat (first | exact (Kd.C_below ay.out HB.out) | (with_reducible refine Kd.C_alloc ?_ _) | (with_reducible refine Kd.C_drewN ?_ _) | (with_reducible refine Kd.C_drew ?_))); (case side4 => exact HC0_2.out); (case side5 => repeat (first | exact (Kd.C_below az.out HB.out) | (with_reducible refine Kd.C_alloc ?_ _) | (with_reducible refine Kd.C_drewN ?_ _) | (with_reducible refine Kd.C_drew ?_))); (case side6 => exact HC0_3.out); rintro e w33 ⟨rfl, hb⟩; refine ⟨_, rfl, ?_⟩; have n0_ := Aside0.mk (blk_below (g := aq) (o := .cells #[.int .i64 ac, .slice ai aa.length aj, .slice ak ab.length al, .slice am ad.length an, .string ae, .int .i64 af, .int .u16 ao] 49 (0, 0)) (zB ah.out) hb); have n1_ := Aside0.mk (blk_below (g := au) (o := .cells #[.int .i64 ac, .slice ai aa.length aj, .slice ak ab.length al, .slice am ad.length an] 26 (0, 0)) (zB ag.out) hb); have n2_ := Aside0.mk (below_step (by repeat (first | (with_reducible first | exact HB.out | apply pA | apply pN | apply pD | refine pS ?_ ap.out | refine pS ?_ ar.out) | exact HB.out)) hb); clear ah; clear ag; clear HB; have ah := n0_; have ag := n1_; have HB := n2_; clear n0_ n1_ n2_; (try clear hb); (try clear hb2); (try clear hk); (try clear hi); obtain ⟨ck, cl, cm, cn, co, cp, cq, cr⟩ := bk4 ag.out) | (go_at_call 15; (with_reducible refine (gate_Until.calls ac _ _ aa _ _ ab _ _ ad ae aF _ ?side1 ?side2 ?side3 ?side4 ?side5 ?side6 dA.out).mono ?_); (case side1 => repeat (first | exact (Kd.C_below ax.out HB.out) | (with_reducible refine Kd.C_alloc ?_ _) | (with_reducible refine Kd.C_drewN ?_ _) | (with_reducible refine Kd.C_drew ?_))); (case side2 => exact HC0_1.out); (case side3 => repeat (first | exact (Kd.C_below ay.out HB.out) | (with_reducible refine Kd.C_alloc ?_ _) | (with_reducible refine Kd.C_drewN ?_ _) | (with_reducible refine Kd.C_drew ?_))); (case side4 => exact HC0_2.out); (case side5 => repeat (first | exact (Kd.C_below az.out HB.out) | (with_reducible refine Kd.C_alloc ?_ _) | (with_reducible refine Kd.C_drewN ?_ _) | (with_reducible refine Kd.C_drew ?_))); (case side6 => exact HC0_3.out); rintro e w35 ⟨rfl, hb⟩; have n0_ := Aside0.mk (blk_below (g := aq) (o := .cells #[.int .i64 ac, .slice ai aa.length aj, .slice ak ab.length al, .slice am ad.length an, .string ae, .int .i64 af, .int .u16 ao] 49 (0, 0)) (zB ah.out) hb); have n1_ := Aside0.mk (blk_below (g := au) (o := .cells #[.int .i64 ac, .slice ai aa.length aj, .slice ak ab.length al, .slice am ad.length an] 26 (0, 0)) (zB ag.out) hb); have n2_ := Aside0.mk (below_step (by repeat (first | (with_reducible first | exact HB.out | apply pA | apply pN | apply pD | refine pS ?_ ap.out | refine pS ?_ ar.out) | exact HB.out)) hb); clear ah; clear ag; clear HB; have ah := n0_; have ag := n1_; have HB := n2_; clear n0_ n1_ n2_; (try clear hb); (try clear hb2); (try clear hk); (try clear hi)))
       go_ret
       exact ⟨by first | rfl | (simp [errW_none, errW_some] <;> rfl) | (simp [*, errW_none, errW_some] <;> rfl), by repeat (first | (with_reducible first | exact HB.out | apply pA | apply pN | apply pD | refine pS ?_ ap.out | refine pS ?_ ar.out) | exact HB.out)⟩
      ·rw [if_neg c25] at H
       have bT : decide (3 ≤ aw) = false := decide_eq_false c25
       clear c25
       exact absurd ((Option.some.inj H).trans hlaw_.out) (by decide)
     ·replace c24 := Bool.eq_false_iff.mpr c24
      subst c24
      have H1 : (if aG = true then (some false) else (if aw ≥ 3 then ((gate_Until.f ac aa ab ad ae).bind fun aC => (some (false == (decide (af < aC))))) else ((gate_Until.f ac aa ab ad ae).bind fun aD => (some (false == (decide (af < aD))))))) = some r := by rw [if_neg (show ¬ (false = true) by decide)] at H; exact H
      clear H
      have H := H1
      clear H1
      by_cases c36 : aG = true
      ·subst c36
       have H1 : (some false) = some r := by rw [if_pos rfl] at H; exact H
       clear H
       have H := H1
       clear H1
       exact absurd ((Option.some.inj H).trans hlaw_.out) (by decide)
      ·replace c36 := Bool.eq_false_iff.mpr c36
       subst c36
       have H1 : (if aw ≥ 3 then ((gate_Until.f ac aa ab ad ae).bind fun aC => (some (false == (decide (af < aC))))) else ((gate_Until.f ac aa ab ad ae).bind fun aD => (some (false == (decide (af < aD)))))) = some r := by rw [if_neg (show ¬ (false = true) by decide)] at H; exact H
       clear H
       have H := H1
       clear H1
       by_cases c37 : aw ≥ 3
       ·rw [if_pos c37] at H
        have bU : decide (3 ≤ aw) = true := decide_eq_true c37
        clear c37
        replace H := Option.bind_eq_some_iff.mp H
        obtain ⟨aC, bR, H⟩ := H
        replace H : (some (false == (decide (af < aC)))) = some r := H
        have dB := Aside0.mk bR
        clear bR
        clear hlaw_
        obtain rfl := Option.some.inj H
        have dL := aE.out
        have dM := aB.out
        obtain ⟨ct, cu, cv, cw, cx, cy, cz, cA⟩ := bk4 ag.out
        go_wp2_with (first | ((with_reducible refine gate_callee (f := 12) rfl ?_); refine goesL_ (some 34) rfl rfl Try.func12 (by kernel_rfl) rfl #[.agg #[.int .i64 ac, .slice ai aa.length aj, .slice ak ab.length al, .slice am ad.length an], .string ae] rfl (by (try simp only [List.map_toArray, List.map_cons, List.map_nil]); first | done | rfl | (simp only [List.length_drop, List.length_take]; rfl)) ?_; (with_reducible refine (gate_Failed.calls ac _ _ aa _ _ ab _ _ ad ae aw aK _ ?side1 ?side2 ?side3 ?side4 ?side5 ?side6 aJ.out).mono ?_); (case side1 => repeat (first | exact (Kd.C_below ax.out HB.out) | (with_reducible refine Kd.C_alloc ?_ _) | (with_reducible refine Kd.C_drewN ?_ _) | (with_reducible refine Kd.C_drew ?_))); (case side2 => exact HC0_1.out); (case side3 => repeat (first | exact (Kd.C_below ay.out HB.out) | (with_reducible refine Kd.C_alloc ?_ _) | (with_reducible refine Kd.C_drewN ?_ _) | (with_reducible refine Kd.C_drew ?_))); (case side4 => exact HC0_2.out); (case side5 => repeat (first | exact (Kd.C_below az.out HB.out) | (with_reducible refine Kd.C_alloc ?_ _) | (with_reducible refine Kd.C_drewN ?_ _) | (with_reducible refine Kd.C_drew ?_))); (case side6 => exact HC0_3.out); rintro e w41 ⟨rfl, hb⟩; refine ⟨_, rfl, ?_⟩; have n0_ := Aside0.mk (blk_below (g := aq) (o := .cells #[.int .i64 ac, .slice ai aa.length aj, .slice ak ab.length al, .slice am ad.length an, .string ae, .int .i64 af, .int .u16 ao] 49 (0, 0)) (zB ah.out) hb); have n1_ := Aside0.mk (blk_below (g := au) (o := .cells #[.int .i64 ac, .slice ai aa.length aj, .slice ak ab.length al, .slice am ad.length an] 26 (0, 0)) (zB ag.out) hb); have n2_ := Aside0.mk (below_step (by repeat (first | (with_reducible first | exact HB.out | apply pA | apply pN | apply pD | refine pS ?_ ap.out | refine pS ?_ ar.out) | exact HB.out)) hb); clear ah; clear ag; clear HB; have ah := n0_; have ag := n1_; have HB := n2_; clear n0_ n1_ n2_; (try clear hb); (try clear hb2); (try clear hk); (try clear hi); obtain ⟨cB, cC, cD, cE, cF, cG, cH, cI⟩ := bk4 ag.out) | ((with_reducible refine gate_callee (f := 13) rfl ?_); refine goesL_ (some 40) rfl rfl Try.func13 (by kernel_rfl) rfl #[.agg #[.int .i64 ac, .slice ai aa.length aj, .slice ak ab.length al, .slice am ad.length an], .string ae, .int .i64 af] rfl (by (try simp only [List.map_toArray, List.map_cons, List.map_nil]); first | done | rfl | (simp only [List.length_drop, List.length_take]; rfl)) ?_; (with_reducible refine (gate_Locked.calls ac _ _ aa _ _ ab _ _ ad ae af false _ ?side1 ?side2 ?side3 ?side4 ?side5 ?side6 bN.out).mono ?_); (case side1 => repeat (first | exact (Kd.C_below ax.out HB.out) | (with_reducible refine Kd.C_alloc ?_ _) | (with_reducible refine Kd.C_drewN ?_ _) | (with_reducible refine Kd.C_drew ?_))); (case side2 => exact HC0_1.out); (case side3 => repeat (first | exact (Kd.C_below ay.out HB.out) | (with_reducible refine Kd.C_alloc ?_ _) | (with_reducible refine Kd.C_drewN ?_ _) | (with_reducible refine Kd.C_drew ?_))); (case side4 => exact HC0_2.out); (case side5 => repeat (first | exact (Kd.C_below az.out HB.out) | (with_reducible refine Kd.C_alloc ?_ _) | (with_reducible refine Kd.C_drewN ?_ _) | (with_reducible refine Kd.C_drew ?_))); (case side6 => exact HC0_3.out); rintro e w43 ⟨rfl, hb⟩; refine ⟨_, rfl, ?_⟩; have n0_ := Aside0.mk (blk_below (g := aq) (o := .cells #[.int .i64 ac, .slice ai aa.length aj, .slice ak ab.length al, .slice am ad.length an, .string ae, .int .i64 af, .int .u16 ao] 49 (0, 0)) (zB ah.out) hb); have n1_ := Aside0.mk (blk_below (g := au) (o := .cells #[.int .i64 ac, .slice ai aa.length aj, .slice ak ab.length al, .slice am ad.length an] 26 (0, 0)) (zB ag.out) hb); have n2_ := Aside0.mk (below_step (by repeat (first | (with_reducible first | exact HB.out | apply pA | apply pN | apply pD | refine pS ?_ ap.out | refine pS ?_ ar.out) | exact HB.out)) hb); clear ah; clear ag; clear HB; have ah := n0_; have ag := n1_; have HB := n2_; clear n0_ n1_ n2_; (try clear hb); (try clear hb2); (try clear hk); (try clear hi); obtain ⟨cJ, cK, cL, cM, cN, cO, cP, cQ⟩ := bk4 ag.out) | ((with_reducible refine gate_callee (f := 13) rfl ?_); refine goesL_ (some 47) rfl rfl Try.func13 (by kernel_rfl) rfl #[.agg #[.int .i64 ac, .slice ai aa.length aj, .slice ak ab.length al, .slice am ad.length an], .string ae, .int .i64 (wrap64 (af + (wrap64 (ao))))] rfl (by (try simp only [List.map_toArray, List.map_cons, List.map_nil]); first | done | rfl | (simp only [List.length_drop, List.length_take]; rfl)) ?_; (with_reducible refine (gate_Locked.calls ac _ _ aa _ _ ab _ _ ad ae (wrap64 (af + (wrap64 (ao)))) false _ ?side1 ?side2 ?side3 ?side4 ?side5 ?side6 bP.out).mono ?_); (case side1 => repeat (first | exact (Kd.C_below ax.out HB.out) | (with_reducible refine Kd.C_alloc ?_ _) | (with_reducible refine Kd.C_drewN ?_ _) | (with_reducible refine Kd.C_drew ?_))); (case side2 => exact HC0_1.out); (case side3 => repeat (first | exact (Kd.C_below ay.out HB.out) | (with_reducible refine Kd.C_alloc ?_ _) | (with_reducible refine Kd.C_drewN ?_ _) | (with_reducible refine Kd.C_drew ?_))); (case side4 => exact HC0_2.out); (case side5 => repeat (first | exact (Kd.C_below az.out HB.out) | (with_reducible refine Kd.C_alloc ?_ _) | (with_reducible refine Kd.C_drewN ?_ _) | (with_reducible refine Kd.C_drew ?_))); (case side6 => exact HC0_3.out); rintro e w45 ⟨rfl, hb⟩; refine ⟨_, rfl, ?_⟩; have n0_ := Aside0.mk (blk_below (g := aq) (o := .cells #[.int .i64 ac, .slice ai aa.length aj, .slice ak ab.length al, .slice am ad.length an, .string ae, .int .i64 af, .int .u16 ao] 49 (0, 0)) (zB ah.out) hb); have n1_ := Aside0.mk (blk_below (g := au) (o := .cells #[.int .i64 ac, .slice ai aa.length aj, .slice ak ab.length al, .slice am ad.length an] 26 (0, 0)) (zB ag.out) hb); have n2_ := Aside0.mk (below_step (by repeat (first | (with_reducible first | exact HB.out | apply pA | apply pN | apply pD | refine pS ?_ ap.out | refine pS ?_ ar.out) | exact HB.out)) hb); clear ah; clear ag; clear HB; have ah := n0_; have ag := n1_; have HB := n2_; clear n0_ n1_ n2_; (try clear hb); (try clear hb2); (try clear hk); (try clear hi); obtain ⟨cR, cS, cT, cU, cV, cW, cX, cY⟩ := bk4 ag.out) | (go_at_call 15; (with_reducible refine (gate_Until.calls ac _ _ aa _ _ ab _ _ ad ae aC _ ?side1 ?side2 ?side3 ?side4 ?side5 ?side6 dB.out).mono ?_); (case side1 => repeat (first | exact (Kd.C_below ax.out HB.out) | (with_reducible refine Kd.C_alloc ?_ _) | (with_reducible refine Kd.C_drewN ?_ _) | (with_reducible refine Kd.C_drew ?_))); (case side2 => exact HC0_1.out); (case side3 => repeat (first | exact (Kd.C_below ay.out HB.out) | (with_reducible refine Kd.C_alloc ?_ _) | (with_reducible refine Kd.C_drewN ?_ _) | (with_reducible refine Kd.C_drew ?_))); (case side4 => exact HC0_2.out); (case side5 => repeat (first | exact (Kd.C_below az.out HB.out) | (with_reducible refine Kd.C_alloc ?_ _) | (with_reducible refine Kd.C_drewN ?_ _) | (with_reducible refine Kd.C_drew ?_))); (case side6 => exact HC0_3.out); rintro e w47 ⟨rfl, hb⟩; have n0_ := Aside0.mk (blk_below (g := aq) (o := .cells #[.int .i64 ac, .slice ai aa.length aj, .slice ak ab.length al, .slice am ad.length an, .string ae, .int .i64 af, .int .u16 ao] 49 (0, 0)) (zB ah.out) hb); have n1_ := Aside0.mk (blk_below (g := au) (o := .cells #[.int .i64 ac, .slice ai aa.length aj, .slice ak ab.length al, .slice am ad.length an] 26 (0, 0)) (zB ag.out) hb); have n2_ := Aside0.mk (below_step (by repeat (first | (with_reducible first | exact HB.out | apply pA | apply pN | apply pD | refine pS ?_ ap.out | refine pS ?_ ar.out) | exact HB.out)) hb); clear ah; clear ag; clear HB; have ah := n0_; have ag := n1_; have HB := n2_; clear n0_ n1_ n2_; (try clear hb); (try clear hb2); (try clear hk); (try clear hi)))
        go_ret
        exact ⟨by first | rfl | (simp [errW_none, errW_some] <;> rfl) | (simp [*, errW_none, errW_some] <;> rfl), by repeat (first | (with_reducible first | exact HB.out | apply pA | apply pN | apply pD | refine pS ?_ ap.out | refine pS ?_ ar.out) | exact HB.out)⟩
       ·rw [if_neg c37] at H
        have bU : decide (3 ≤ aw) = false := decide_eq_false c37
        clear c37
        replace H := Option.bind_eq_some_iff.mp H
        obtain ⟨aD, bS, H⟩ := H
        replace H : (some (false == (decide (af < aD)))) = some r := H
        have dC := Aside0.mk bS
        clear bS
        clear hlaw_
        obtain rfl := Option.some.inj H
        have dN := aE.out
        have dO := aB.out
        obtain ⟨cZ, c0, c2, c3, c4, c6, c8, da⟩ := bk4 ag.out
        go_wp2_with (first | ((with_reducible refine gate_callee (f := 12) rfl ?_); refine goesL_ (some 34) rfl rfl Try.func12 (by kernel_rfl) rfl #[.agg #[.int .i64 ac, .slice ai aa.length aj, .slice ak ab.length al, .slice am ad.length an], .string ae] rfl (by (try simp only [List.map_toArray, List.map_cons, List.map_nil]); first | done | rfl | (simp only [List.length_drop, List.length_take]; rfl)) ?_; (with_reducible refine (gate_Failed.calls ac _ _ aa _ _ ab _ _ ad ae aw aK _ ?side1 ?side2 ?side3 ?side4 ?side5 ?side6 aJ.out).mono ?_); (case side1 => repeat (first | exact (Kd.C_below ax.out HB.out) | (with_reducible refine Kd.C_alloc ?_ _) | (with_reducible refine Kd.C_drewN ?_ _) | (with_reducible refine Kd.C_drew ?_))); (case side2 => exact HC0_1.out); (case side3 => repeat (first | exact (Kd.C_below ay.out HB.out) | (with_reducible refine Kd.C_alloc ?_ _) | (with_reducible refine Kd.C_drewN ?_ _) | (with_reducible refine Kd.C_drew ?_))); (case side4 => exact HC0_2.out); (case side5 => repeat (first | exact (Kd.C_below az.out HB.out) | (with_reducible refine Kd.C_alloc ?_ _) | (with_reducible refine Kd.C_drewN ?_ _) | (with_reducible refine Kd.C_drew ?_))); (case side6 => exact HC0_3.out); rintro e w51 ⟨rfl, hb⟩; refine ⟨_, rfl, ?_⟩; have n0_ := Aside0.mk (blk_below (g := aq) (o := .cells #[.int .i64 ac, .slice ai aa.length aj, .slice ak ab.length al, .slice am ad.length an, .string ae, .int .i64 af, .int .u16 ao] 49 (0, 0)) (zB ah.out) hb); have n1_ := Aside0.mk (blk_below (g := au) (o := .cells #[.int .i64 ac, .slice ai aa.length aj, .slice ak ab.length al, .slice am ad.length an] 26 (0, 0)) (zB ag.out) hb); have n2_ := Aside0.mk (below_step (by repeat (first | (with_reducible first | exact HB.out | apply pA | apply pN | apply pD | refine pS ?_ ap.out | refine pS ?_ ar.out) | exact HB.out)) hb); clear ah; clear ag; clear HB; have ah := n0_; have ag := n1_; have HB := n2_; clear n0_ n1_ n2_; (try clear hb); (try clear hb2); (try clear hk); (try clear hi); obtain ⟨db, dc, dd, de, df, dg, dh, di⟩ := bk4 ag.out) | ((with_reducible refine gate_callee (f := 13) rfl ?_); refine goesL_ (some 40) rfl rfl Try.func13 (by kernel_rfl) rfl #[.agg #[.int .i64 ac, .slice ai aa.length aj, .slice ak ab.length al, .slice am ad.length an], .string ae, .int .i64 af] rfl (by (try simp only [List.map_toArray, List.map_cons, List.map_nil]); first | done | rfl | (simp only [List.length_drop, List.length_take]; rfl)) ?_; (with_reducible refine (gate_Locked.calls ac _ _ aa _ _ ab _ _ ad ae af false _ ?side1 ?side2 ?side3 ?side4 ?side5 ?side6 bN.out).mono ?_); (case side1 => repeat (first | exact (Kd.C_below ax.out HB.out) | (with_reducible refine Kd.C_alloc ?_ _) | (with_reducible refine Kd.C_drewN ?_ _) | (with_reducible refine Kd.C_drew ?_))); (case side2 => exact HC0_1.out); (case side3 => repeat (first | exact (Kd.C_below ay.out HB.out) | (with_reducible refine Kd.C_alloc ?_ _) | (with_reducible refine Kd.C_drewN ?_ _) | (with_reducible refine Kd.C_drew ?_))); (case side4 => exact HC0_2.out); (case side5 => repeat (first | exact (Kd.C_below az.out HB.out) | (with_reducible refine Kd.C_alloc ?_ _) | (with_reducible refine Kd.C_drewN ?_ _) | (with_reducible refine Kd.C_drew ?_))); (case side6 => exact HC0_3.out); rintro e w53 ⟨rfl, hb⟩; refine ⟨_, rfl, ?_⟩; have n0_ := Aside0.mk (blk_below (g := aq) (o := .cells #[.int .i64 ac, .slice ai aa.length aj, .slice ak ab.length al, .slice am ad.length an, .string ae, .int .i64 af, .int .u16 ao] 49 (0, 0)) (zB ah.out) hb); have n1_ := Aside0.mk (blk_below (g := au) (o := .cells #[.int .i64 ac, .slice ai aa.length aj, .slice ak ab.length al, .slice am ad.length an] 26 (0, 0)) (zB ag.out) hb); have n2_ := Aside0.mk (below_step (by repeat (first | (with_reducible first | exact HB.out | apply pA | apply pN | apply pD | refine pS ?_ ap.out | refine pS ?_ ar.out) | exact HB.out)) hb); clear ah; clear ag; clear HB; have ah := n0_; have ag := n1_; have HB := n2_; clear n0_ n1_ n2_; (try clear hb); (try clear hb2); (try clear hk); (try clear hi); obtain ⟨dj, dk, dl, dm, dn, dp, dq, dr⟩ := bk4 ag.out) | ((with_reducible refine gate_callee (f := 13) rfl ?_); refine goesL_ (some 47) rfl rfl Try.func13 (by kernel_rfl) rfl #[.agg #[.int .i64 ac, .slice ai aa.length aj, .slice ak ab.length al, .slice am ad.length an], .string ae, .int .i64 (wrap64 (af + (wrap64 (ao))))] rfl (by (try simp only [List.map_toArray, List.map_cons, List.map_nil]); first | done | rfl | (simp only [List.length_drop, List.length_take]; rfl)) ?_; (with_reducible refine (gate_Locked.calls ac _ _ aa _ _ ab _ _ ad ae (wrap64 (af + (wrap64 (ao)))) false _ ?side1 ?side2 ?side3 ?side4 ?side5 ?side6 bP.out).mono ?_); (case side1 => repeat (first | exact (Kd.C_below ax.out HB.out) | (with_reducible refine Kd.C_alloc ?_ _) | (with_reducible refine Kd.C_drewN ?_ _) | (with_reducible refine Kd.C_drew ?_))); (case side2 => exact HC0_1.out); (case side3 => repeat (first | exact (Kd.C_below ay.out HB.out) | (with_reducible refine Kd.C_alloc ?_ _) | (with_reducible refine Kd.C_drewN ?_ _) | (with_reducible refine Kd.C_drew ?_))); (case side4 => exact HC0_2.out); (case side5 => repeat (first | exact (Kd.C_below az.out HB.out) | (with_reducible refine Kd.C_alloc ?_ _) | (with_reducible refine Kd.C_drewN ?_ _) | (with_reducible refine Kd.C_drew ?_))); (case side6 => exact HC0_3.out); rintro e w55 ⟨rfl, hb⟩; refine ⟨_, rfl, ?_⟩; have n0_ := Aside0.mk (blk_below (g := aq) (o := .cells #[.int .i64 ac, .slice ai aa.length aj, .slice ak ab.length al, .slice am ad.length an, .string ae, .int .i64 af, .int .u16 ao] 49 (0, 0)) (zB ah.out) hb); have n1_ := Aside0.mk (blk_below (g := au) (o := .cells #[.int .i64 ac, .slice ai aa.length aj, .slice ak ab.length al, .slice am ad.length an] 26 (0, 0)) (zB ag.out) hb); have n2_ := Aside0.mk (below_step (by repeat (first | (with_reducible first | exact HB.out | apply pA | apply pN | apply pD | refine pS ?_ ap.out | refine pS ?_ ar.out) | exact HB.out)) hb); clear ah; clear ag; clear HB; have ah := n0_; have ag := n1_; have HB := n2_; clear n0_ n1_ n2_; (try clear hb); (try clear hb2); (try clear hk); (try clear hi); obtain ⟨ds, dt, du, dv, dw, dx, dy, dz⟩ := bk4 ag.out) | (go_at_call 15; (with_reducible refine (gate_Until.calls ac _ _ aa _ _ ab _ _ ad ae aD _ ?side1 ?side2 ?side3 ?side4 ?side5 ?side6 dC.out).mono ?_); (case side1 => repeat (first | exact (Kd.C_below ax.out HB.out) | (with_reducible refine Kd.C_alloc ?_ _) | (with_reducible refine Kd.C_drewN ?_ _) | (with_reducible refine Kd.C_drew ?_))); (case side2 => exact HC0_1.out); (case side3 => repeat (first | exact (Kd.C_below ay.out HB.out) | (with_reducible refine Kd.C_alloc ?_ _) | (with_reducible refine Kd.C_drewN ?_ _) | (with_reducible refine Kd.C_drew ?_))); (case side4 => exact HC0_2.out); (case side5 => repeat (first | exact (Kd.C_below az.out HB.out) | (with_reducible refine Kd.C_alloc ?_ _) | (with_reducible refine Kd.C_drewN ?_ _) | (with_reducible refine Kd.C_drew ?_))); (case side6 => exact HC0_3.out); rintro e w57 ⟨rfl, hb⟩; have n0_ := Aside0.mk (blk_below (g := aq) (o := .cells #[.int .i64 ac, .slice ai aa.length aj, .slice ak ab.length al, .slice am ad.length an, .string ae, .int .i64 af, .int .u16 ao] 49 (0, 0)) (zB ah.out) hb); have n1_ := Aside0.mk (blk_below (g := au) (o := .cells #[.int .i64 ac, .slice ai aa.length aj, .slice ak ab.length al, .slice am ad.length an] 26 (0, 0)) (zB ag.out) hb); have n2_ := Aside0.mk (below_step (by repeat (first | (with_reducible first | exact HB.out | apply pA | apply pN | apply pD | refine pS ?_ ap.out | refine pS ?_ ar.out) | exact HB.out)) hb); clear ah; clear ag; clear HB; have ah := n0_; have ag := n1_; have HB := n2_; clear n0_ n1_ n2_; (try clear hb); (try clear hb2); (try clear hk); (try clear hi)))
        go_ret
        exact ⟨by first | rfl | (simp [errW_none, errW_some] <;> rfl) | (simp [*, errW_none, errW_some] <;> rfl), by repeat (first | (with_reducible first | exact HB.out | apply pA | apply pN | apply pD | refine pS ?_ ap.out | refine pS ?_ ar.out) | exact HB.out)⟩
    ·replace c23 := Bool.eq_false_iff.mpr c23
     subst c23
     have H1 : (some false) = some r := by rw [if_neg (show ¬ (false = true) by decide)] at H; exact H
     clear H
     have H := H1
     clear H1
     exact absurd ((Option.some.inj H).trans hlaw_.out) (by decide)

end Go.Proofs.Ytocjadhpaecpaaa.Q

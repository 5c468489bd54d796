-- written by this session's own program (wip/tools/myprint.py), over the kit's print
import Derived.Test.YtlimlbhhbjaljaaQx0
import Derived.Test.YtlimlbhhbjaljaaQx14
namespace Go.Proofs.Ytlimlbhhbjaljaa.Q
open Go.RowKit Go.Proofs.YtlimlbhhbjaljaaW.PrintWords Go.Proofs.YtlimlbhhbjaljaaW.PrintLast Go.Proofs.YtlimlbhhbjaljaaW.PrintMore
open Go.Proofs.YtlimlbhhbjaljaaV
attribute [local go_sem] max2_int min2_int max_two min_two max_three min_three max_four min_four   -- for this text's walks alone
set_option linter.unusedVariables false
set_option linter.unusedSimpArgs false

/-! ### portreeveref04_line: function 29 -/
mutual
def portreeveref04_line.j0 : Nat → Int → Bool → Int → List (S51) → List (S56) → List (S68) → Int → Int → Int → Int → Int → Option (Bool)
 | 0, _, _, _, _, _, _, _, _, _, _, _ => none
 | k + 1, x6, x27, x249000, x249001, x249002, x249003, x251000, x251001, x251002, x251003, x251004 => if x27 = true then (some false) else (if x6 < 0 then (if x251000 = 1 then (if x251002 = 0 then (if x251003 = 0 then (some (x251004 == 0)) else (some false)) else (some false)) else (some false)) else (if 0 ≤ x6 then (if x6 < (x249002.length : Int) then (if ((rd_T56 x249002 x6).f0) = 3 then (portreeveref04_line.j1 k true x251000 x251001 x251002 x251003 x251004) else (if x251002 < ((rd_T56 x249002 x6).f2) then (portreeveref04_line.j1 k true x251000 x251001 x251002 x251003 x251004) else (portreeveref04_line.j1 k (decide (x251003 < ((rd_T56 x249002 x6).f3))) x251000 x251001 x251002 x251003 x251004))) else (none)) else (none)))
def portreeveref04_line.j1 : Nat → Bool → Int → Int → Int → Int → Int → Option (Bool)
 | 0, _, _, _, _, _, _ => none
 | k + 1, x69, x251000, x251001, x251002, x251003, x251004 => if x69 = true then (some false) else (if x251000 = 2 then (if x251004 = 0 then (some true) else (if x251000 = 3 then (if x251004 ≥ 0 then (some (decide (x251004 ≤ 255))) else (some false)) else (some false))) else (if x251000 = 3 then (if x251004 ≥ 0 then (some (decide (x251004 ≤ 255))) else (some false)) else (some false)))
end
def portreeveref04_line.f (k : Nat) (a0_0 : Int) (l0_1 : List (S51)) (l0_2 : List (S56)) (l0_3 : List (S68)) (a1 : Int) : Option (Bool) := if 0 ≤ a1 then (if a1 < (l0_2.length : Int) then ((portreeveref04_last.f k a0_0 l0_1 l0_2 l0_3 ((rd_T56 l0_2 a1).f1) a1).bind fun t251 => (if ((rd_T56 l0_2 a1).f1) < 0 then (portreeveref04_line.j0 k t251 true a0_0 l0_1 l0_2 l0_3 ((rd_T56 l0_2 a1).f0) ((rd_T56 l0_2 a1).f1) ((rd_T56 l0_2 a1).f2) ((rd_T56 l0_2 a1).f3) ((rd_T56 l0_2 a1).f4)) else (portreeveref04_line.j0 k t251 (decide (((rd_T56 l0_2 a1).f1) ≥ a0_0)) a0_0 l0_1 l0_2 l0_3 ((rd_T56 l0_2 a1).f0) ((rd_T56 l0_2 a1).f1) ((rd_T56 l0_2 a1).f2) ((rd_T56 l0_2 a1).f3) ((rd_T56 l0_2 a1).f4)))) else (none)) else (none)
theorem portreeveref04_line.mono_l : ∀ k, (∀ y0 y1 y2 y3 y4 y5 y6 y7 y8 y9 y10, LeO (portreeveref04_line.j0 k y0 y1 y2 y3 y4 y5 y6 y7 y8 y9 y10) (portreeveref04_line.j0 (k + 1) y0 y1 y2 y3 y4 y5 y6 y7 y8 y9 y10)) ∧ (∀ y0 y1 y2 y3 y4 y5, LeO (portreeveref04_line.j1 k y0 y1 y2 y3 y4 y5) (portreeveref04_line.j1 (k + 1) y0 y1 y2 y3 y4 y5))
 | 0 => ⟨fun _ _ _ _ _ _ _ _ _ _ _ r h => by simp [portreeveref04_line.j0] at h, fun _ _ _ _ _ _ r h => by simp [portreeveref04_line.j1] at h⟩
 | k + 1 => by
  obtain ⟨ih0, ih1⟩ := portreeveref04_line.mono_l k
  refine ⟨?_, ?_⟩
  ·intro y0 y1 y2 y3 y4 y5 y6 y7 y8 y9 y10
   unfold portreeveref04_line.j0
   repeat' first
   | (with_reducible exact ih0 _ _ _ _ _ _ _ _ _ _ _)
   | (with_reducible exact ih1 _ _ _ _ _ _)
   | (with_reducible exact portreeveref04_last.mono _ _ _ _ _ _ _)
   | (with_reducible exact LeO.refl _)
   | (with_reducible exact LeO.none _)
   | (with_reducible refine LeO.ite ?_ ?_)
   | (with_reducible refine LeO.bind ?_ (fun _ => ?_))
   | exact ih0 _ _ _ _ _ _ _ _ _ _ _
   | exact ih1 _ _ _ _ _ _
   | exact portreeveref04_last.mono _ _ _ _ _ _ _
   | exact LeO.none _
   | refine LeO.ite ?_ ?_
   | refine LeO.bind ?_ (fun _ => ?_)
  ·intro y0 y1 y2 y3 y4 y5
   unfold portreeveref04_line.j1
   repeat' first
   | (with_reducible exact ih0 _ _ _ _ _ _ _ _ _ _ _)
   | (with_reducible exact ih1 _ _ _ _ _ _)
   | (with_reducible exact portreeveref04_last.mono _ _ _ _ _ _ _)
   | (with_reducible exact LeO.refl _)
   | (with_reducible exact LeO.none _)
   | (with_reducible refine LeO.ite ?_ ?_)
   | (with_reducible refine LeO.bind ?_ (fun _ => ?_))
   | exact ih0 _ _ _ _ _ _ _ _ _ _ _
   | exact ih1 _ _ _ _ _ _
   | exact portreeveref04_last.mono _ _ _ _ _ _ _
   | exact LeO.none _
   | refine LeO.ite ?_ ?_
   | refine LeO.bind ?_ (fun _ => ?_)
theorem portreeveref04_line.mono : ∀ a0 a1 a2 a3 a4 k, LeO (portreeveref04_line.f k a0 a1 a2 a3 a4) (portreeveref04_line.f (k + 1) a0 a1 a2 a3 a4) := by
 intro a0 a1 a2 a3 a4 k
 obtain ⟨ih0, ih1⟩ := portreeveref04_line.mono_l k
 unfold portreeveref04_line.f
 repeat' first
   | (with_reducible exact ih0 _ _ _ _ _ _ _ _ _ _ _)
   | (with_reducible exact ih1 _ _ _ _ _ _)
   | (with_reducible exact portreeveref04_last.mono _ _ _ _ _ _ _)
   | (with_reducible exact LeO.refl _)
   | (with_reducible exact LeO.none _)
   | (with_reducible refine LeO.ite ?_ ?_)
   | (with_reducible refine LeO.bind ?_ (fun _ => ?_))
   | exact ih0 _ _ _ _ _ _ _ _ _ _ _
   | exact ih1 _ _ _ _ _ _
   | exact portreeveref04_last.mono _ _ _ _ _ _ _
   | exact LeO.none _
   | refine LeO.ite ?_ ?_
   | refine LeO.bind ?_ (fun _ => ?_)
set_option maxHeartbeats 8000000 in
set_option maxRecDepth 100000 in
theorem portreeveref04_line.calls (k : Nat) (ak : Int) (au : Option Addr) (av : Nat) (al : List (S51)) (bF : Option Addr) (aw : Nat) (aa : List (S56)) (ax : Option Addr) (ay : Nat) (am : List (S68)) (a1 : Int) (r : Bool) (w : World) (hr0_1 : Kd.C k51 w au al.length al) (hc0_1 : al.length ≤ av) (hr0_2 : Kd.C k56 w bF aa.length aa) (hc0_2 : aa.length ≤ aw) (hr0_3 : Kd.C k68 w ax am.length am) (hc0_3 : am.length ≤ ay) (h : portreeveref04_line.f k ak al aa am a1 = some r) :
  Calls Try.prog 29 #[.agg #[.int .i64 ak, .slice au al.length av, .slice bF aa.length aw, .slice ax am.length ay], .int .i64 a1] w fun e w' => e = .returned (.bool r) ∧ Below w.heap.size w w' := by
 have hu46 := Try.underlying46
 have hu56 := Try.underlying56
 have dK := Aside0.mk hr0_1
 have HC0_1 := Aside0.mk hc0_1
 clear hr0_1 hc0_1
 have bv := Aside0.mk hr0_2
 have HC0_2 := Aside0.mk hc0_2
 clear hr0_2 hc0_2
 have dL := Aside0.mk hr0_3
 have HC0_3 := Aside0.mk hc0_3
 clear hr0_3 hc0_3
 have HB := Aside0.mk (Below.refl w.heap.size w)
 have H : (if 0 ≤ a1 then (if a1 < (aa.length : Int) then ((portreeveref04_last.f k ak al aa am ((rd_T56 aa a1).f1) a1).bind fun ab => (if ((rd_T56 aa a1).f1) < 0 then (portreeveref04_line.j0 k ab true ak al aa am ((rd_T56 aa a1).f0) ((rd_T56 aa a1).f1) ((rd_T56 aa a1).f2) ((rd_T56 aa a1).f3) ((rd_T56 aa a1).f4)) else (portreeveref04_line.j0 k ab (decide (((rd_T56 aa a1).f1) ≥ ak)) ak al aa am ((rd_T56 aa a1).f0) ((rd_T56 aa a1).f1) ((rd_T56 aa a1).f2) ((rd_T56 aa a1).f3) ((rd_T56 aa a1).f4)))) else (none)) else (none)) = some r := h
 clear h
 by_cases c3 : 0 ≤ a1
 ·rw [if_pos c3] at H
  have dH : decide (0 ≤ a1) = true := decide_eq_true c3
  clear c3
  by_cases c4 : a1 < (aa.length : Int)
  ·rw [if_pos c4] at H
   have dI : decide (a1 < (aa.length : Int)) = true := decide_eq_true c4
   clear c4
   replace H := Option.bind_eq_some_iff.mp H
   obtain ⟨ab, dZ, H⟩ := H
   replace H : (if ((rd_T56 aa a1).f1) < 0 then (portreeveref04_line.j0 k ab true ak al aa am ((rd_T56 aa a1).f0) ((rd_T56 aa a1).f1) ((rd_T56 aa a1).f2) ((rd_T56 aa a1).f3) ((rd_T56 aa a1).f4)) else (portreeveref04_line.j0 k ab (decide (((rd_T56 aa a1).f1) ≥ ak)) ak al aa am ((rd_T56 aa a1).f0) ((rd_T56 aa a1).f1) ((rd_T56 aa a1).f2) ((rd_T56 aa a1).f3) ((rd_T56 aa a1).f4))) = some r := H
   have A5 := Aside0.mk dZ
   clear dZ
   have HC6 := Aside0.mk H
   clear H
   go_enter Try.func29, Try.ntmps29
   go_upto_region 3 with (first | ((with_reducible refine gate_dst (N := 2) rfl ?_); refine box_event ?hg (N := 2) ?hd (cs := #[.int .i64 ak, .slice au al.length av, .slice bF aa.length aw, .slice ax am.length ay]) (t := 46) ?hr ?_; (case hd => rfl); (case hg => rfl); (case hr => first | (go_simp; done) | (go_simp; rfl)); intro an hg w7 hbox hb; have n0_ := Aside0.mk (below_step (zH HB.out) hb); have n1_ := Aside0.mk (hbox); have n2_ := Aside0.mk ((by rw [hg]; exact (below_size (zH HB.out)) : w.heap.size ≤ an)); have n3_ := Aside0.mk ((by rw [hg]; exact (below_size (zH HB.out)) : w.heap.size ≤ an)); clear HB; have HB := n0_; have ai := n1_; have e8 := n2_; have af := n3_; clear n0_ n1_ n2_ n3_; clear hb hbox hg; obtain ⟨bw, bx, bz, bA, bB, bC, bD, bE⟩ := bk4 ai.out; have p249 : 0 ≤ (a1 : Int) := of_decide_eq_true (by first | (with_reducible assumption) | assumption); have q249 : a1 < (aa.length : Int) := of_decide_eq_true (by first | (with_reducible assumption) | assumption); obtain ⟨aq, e249, hx249_0, hx249_1, hx249_2, hx249_3, hx249_4⟩ := at_T56 bv.out a1 p249 q249; cases e249; replace hx249_0 := (HB.out.cell (World.block_lt_of_cell? w _ hx249_0)).trans hx249_0; replace hx249_1 := (HB.out.cell (World.block_lt_of_cell? w _ hx249_1)).trans hx249_1; replace hx249_2 := (HB.out.cell (World.block_lt_of_cell? w _ hx249_2)).trans hx249_2; replace hx249_3 := (HB.out.cell (World.block_lt_of_cell? w _ hx249_3)).trans hx249_3; replace hx249_4 := (HB.out.cell (World.block_lt_of_cell? w _ hx249_4)).trans hx249_4; replace p249 := eq_true p249; replace q249 := eq_true q249) | ((with_reducible refine gate_dst (N := 5) rfl ?_); refine box_event ?hg (N := 5) ?hd (cs := #[.int .i64 0, .int .i64 0, .int .u64 0, .int .u64 0, .int .i64 0]) (t := 56) ?hr ?_; (case hd => rfl); (case hg => rfl); (case hr => first | (go_simp; done) | (go_simp; rfl)); intro ap hg w9 hbox hb; have n0_ := Aside0.mk (blk_below (g := an) (o := .cells #[.int .i64 ak, .slice au al.length av, .slice (some aq) aa.length aw, .slice ax am.length ay] 46 (0, 0)) (zB ai.out) hb); have n1_ := Aside0.mk (below_step (by repeat (first | (with_reducible first | exact HB.out | apply pA | apply pN | apply pD | refine pS ?_ af.out) | exact HB.out)) hb); have n2_ := Aside0.mk (hbox); have n3_ := Aside0.mk ((by rw [hg]; exact (below_size (by repeat (first | (with_reducible first | exact HB.out | apply pA | apply pN | apply pD | refine pS ?_ af.out) | exact HB.out))) : w.heap.size ≤ ap)); have n4_ := Aside0.mk ((by rw [hg]; exact (below_size (by repeat (first | (with_reducible first | exact HB.out | apply pA | apply pN | apply pD | refine pS ?_ af.out) | exact HB.out))) : w.heap.size ≤ ap)); have n5_ := Aside0.mk ((by rw [hg]; exact Nat.ne_of_lt (blk_lt (g := an) (o := .cells #[.int .i64 ak, .slice au al.length av, .slice (some aq) aa.length aw, .slice ax am.length ay] 46 (0, 0)) (zB ai.out)) : an ≠ ap)); have n6_ := Aside0.mk ((by rw [hg]; exact Nat.ne_of_gt (blk_lt (g := an) (o := .cells #[.int .i64 ak, .slice au al.length av, .slice (some aq) aa.length aw, .slice ax am.length ay] 46 (0, 0)) (zB ai.out)) : ap ≠ an)); clear ai; clear HB; have ai := n0_; have HB := n1_; have ae := n2_; have e9 := n3_; have ah := n4_; have ac := n5_; have ad := n6_; clear n0_ n1_ n2_ n3_ n4_ n5_ n6_; clear hb hbox hg; have fa := ad.out; have fb := ac.out; obtain ⟨aG, aH, aI, aJ, aK, aL, aM, aN, aO, aP⟩ := bk5 ae.out; obtain ⟨aQ, aR, aS, aT, aU, aV, aW, aX⟩ := bk4 ai.out) | ((with_reducible refine gate_callee (f := 30) rfl ?_); refine goesL_ (some 17) rfl rfl Try.func30 (by kernel_rfl) rfl #[.agg #[.int .i64 ak, .slice au al.length av, .slice (some aq) aa.length aw, .slice ax am.length ay], .int .i64 ((rd_T56 aa a1).f1), .int .i64 a1] rfl (by (try simp only [List.map_toArray, List.map_cons, List.map_nil]); first | done | rfl | (simp only [List.length_drop, List.length_take]; rfl)) ?_; (with_reducible refine (portreeveref04_last.calls k ak _ _ al _ _ aa _ _ am ((rd_T56 aa a1).f1) a1 ab _ ?side1 ?side2 ?side3 ?side4 ?side5 ?side6 A5.out).mono ?_); (case side1 => exact Kd.C_below dK.out (by repeat (first | (with_reducible first | exact HB.out | apply pA | apply pN | apply pD | refine pS ?_ af.out | refine pS ?_ ah.out) | exact HB.out))); (case side2 => exact HC0_1.out); (case side3 => exact Kd.C_below bv.out (by repeat (first | (with_reducible first | exact HB.out | apply pA | apply pN | apply pD | refine pS ?_ af.out | refine pS ?_ ah.out) | exact HB.out))); (case side4 => exact HC0_2.out); (case side5 => exact Kd.C_below dL.out (by repeat (first | (with_reducible first | exact HB.out | apply pA | apply pN | apply pD | refine pS ?_ af.out | refine pS ?_ ah.out) | exact HB.out))); (case side6 => exact HC0_3.out); rintro e w13 ⟨rfl, hb⟩; refine ⟨_, rfl, ?_⟩; have n0_ := Aside0.mk (blk_below (g := an) (o := .cells #[.int .i64 ak, .slice au al.length av, .slice (some aq) aa.length aw, .slice ax am.length ay] 46 (0, 0)) (fB ac.out ai.out) hb); have n1_ := Aside0.mk (blk_below (g := ap) (o := .cells #[.int .i64 ((rd_T56 aa a1).f0), .int .i64 ((rd_T56 aa a1).f1), .int .u64 ((rd_T56 aa a1).f2), .int .u64 ((rd_T56 aa a1).f3), .int .i64 ((rd_T56 aa a1).f4)] 56 (0, 0)) (by (with_reducible repeat (first | refine qN ?_ _ | refine qD ?_ | refine qA ?_ _)); refine blk_put (cs := #[.int .i64 ((rd_T56 aa a1).f0), .int .i64 ((rd_T56 aa a1).f1), .int .u64 ((rd_T56 aa a1).f2), .int .u64 ((rd_T56 aa a1).f3), .int .i64 0]) ?_ 4 _ rfl; (with_reducible repeat (first | refine qN ?_ _ | refine qD ?_ | refine qA ?_ _)); refine blk_put (cs := #[.int .i64 ((rd_T56 aa a1).f0), .int .i64 ((rd_T56 aa a1).f1), .int .u64 ((rd_T56 aa a1).f2), .int .u64 0, .int .i64 0]) ?_ 3 _ rfl; (with_reducible repeat (first | refine qN ?_ _ | refine qD ?_ | refine qA ?_ _)); refine blk_put (cs := #[.int .i64 ((rd_T56 aa a1).f0), .int .i64 ((rd_T56 aa a1).f1), .int .u64 0, .int .u64 0, .int .i64 0]) ?_ 2 _ rfl; (with_reducible repeat (first | refine qN ?_ _ | refine qD ?_ | refine qA ?_ _)); refine blk_put (cs := #[.int .i64 ((rd_T56 aa a1).f0), .int .i64 0, .int .u64 0, .int .u64 0, .int .i64 0]) ?_ 1 _ rfl; (with_reducible repeat (first | refine qN ?_ _ | refine qD ?_ | refine qA ?_ _)); refine blk_put (cs := #[.int .i64 0, .int .i64 0, .int .u64 0, .int .u64 0, .int .i64 0]) ?_ 0 _ rfl; (with_reducible repeat (first | refine qN ?_ _ | refine qD ?_ | refine qA ?_ _)); exact ae.out) hb); have n2_ := Aside0.mk (below_step (by repeat (first | (with_reducible first | exact HB.out | apply pA | apply pN | apply pD | refine pS ?_ af.out | refine pS ?_ ah.out) | exact HB.out)) hb); clear ai; clear ae; clear HB; have ai := n0_; have ae := n1_; have HB := n2_; clear n0_ n1_ n2_; (try clear hb); (try clear hb2); (try clear hk); (try clear hi)))
   (try simp only [Act.put, sT, s0, s1])
   go_cut [27] (fun v27 wc => ∃ (kq : Nat) (aF : Bool), v27 = .bool aF ∧ Aside0 (portreeveref04_line.j0 kq ab aF ak al aa am ((rd_T56 aa a1).f0) ((rd_T56 aa a1).f1) ((rd_T56 aa a1).f2) ((rd_T56 aa a1).f3) ((rd_T56 aa a1).f4) = some r) ∧ Aside0 (kq ≤ k) ∧ Aside0 (wc.heap[an]? = some (.cells #[.int .i64 ak, (.slice au al.length av), (.slice (some aq) aa.length aw), (.slice ax am.length ay)] 46 (0, 0))) ∧ Aside0 (wc.heap[ap]? = some (.cells #[.int .i64 ((rd_T56 aa a1).f0), .int .i64 ((rd_T56 aa a1).f1), .int .u64 ((rd_T56 aa a1).f2), .int .u64 ((rd_T56 aa a1).f3), .int .i64 ((rd_T56 aa a1).f4)] 56 (0, 0))) ∧ Aside0 (Below w.heap.size w wc))
   case first =>
    have H := HC6.out
    clear HC6
    by_cases c14 : ((rd_T56 aa a1).f1) < 0
    ·rw [if_pos c14] at H
     have aB : decide (((rd_T56 aa a1).f1) < 0) = true := decide_eq_true c14
     clear c14
     (first | rw [aB] | (simp only [i64_w, i32_w]; rw [aB]) | skip)
     have H' := Aside0.mk H
     clear H
     have fc := ad.out
     have fd := ac.out
     obtain ⟨aY, aZ, a5, a6, a7, a8, a9, ba, bb, bc⟩ := bk5 ae.out
     go_wp2
     go_meet
     case rel => exact ⟨_, (true), (by first | rfl | (simp; done) | (simp [*]; done)), H', ⟨by first | omega | exact Nat.le_refl _⟩, ⟨zB ai.out⟩, ⟨zB ae.out⟩, ⟨by repeat (first | (with_reducible first | exact HB.out | apply pA | apply pN | apply pD | refine pS ?_ af.out | refine pS ?_ ah.out) | exact HB.out)⟩⟩
    ·rw [if_neg c14] at H
     have aB : decide (((rd_T56 aa a1).f1) < 0) = false := decide_eq_false c14
     clear c14
     (first | rw [aB] | (simp only [i64_w, i32_w]; rw [aB]) | skip)
     have H' := Aside0.mk H
     clear H
     have fe := ad.out
     have ff := ac.out
     obtain ⟨bd, be, bf, bg, bh, bi, bj, bk, bl, bm⟩ := bk5 ae.out
     obtain ⟨bn, bo, bp, bq, br, bs, bt, bu⟩ := bk4 ai.out
     go_wp2
     go_meet
     case rel => exact ⟨_, (decide (((rd_T56 aa a1).f1) ≥ ak)), (by first | rfl | (simp; done) | (simp [*]; done)), H', ⟨by first | omega | exact Nat.le_refl _⟩, ⟨zB ai.out⟩, ⟨zB ae.out⟩, ⟨by repeat (first | (with_reducible first | exact HB.out | apply pA | apply pN | apply pD | refine pS ?_ af.out | refine pS ?_ ah.out) | exact HB.out)⟩⟩
   case rest =>
    clear HC6
    try clear c1
    try clear c2
    try clear p2
    try clear q2
    try clear hx2
    try clear c3
    try clear dH
    try clear c4
    try clear dI
    try clear c10
    try clear c14
    try clear aB
    try clear c15
    try clear c17
    try clear aG
    try clear aH
    try clear aI
    try clear aJ
    try clear aK
    try clear aQ
    try clear aR
    try clear aS
    try clear aT
    try clear aY
    try clear aZ
    try clear a5
    try clear a6
    try clear a7
    try clear bd
    try clear be
    try clear bf
    try clear bg
    try clear bh
    try clear bn
    try clear bo
    try clear bp
    try clear bq
    try clear bw
    try clear bx
    try clear bz
    try clear bA
    try clear aL
    try clear aM
    try clear aN
    try clear aO
    try clear aP
    try clear aU
    try clear aV
    try clear aW
    try clear aX
    try clear a8
    try clear a9
    try clear ba
    try clear bb
    try clear bc
    try clear bi
    try clear bj
    try clear bk
    try clear bl
    try clear bm
    try clear br
    try clear bs
    try clear bt
    try clear bu
    try clear bB
    try clear bC
    try clear bD
    try clear bE
    try clear hx249_0
    try clear hx249_1
    try clear hx249_2
    try clear hx249_3
    try clear hx249_4
    try clear p249
    try clear q249
    obtain ⟨kq, aF, rfl, HA, dJ, ai, ae, HB⟩ := hcut
    cases kq with
    | zero => exact absurd HA.out (by simp [portreeveref04_line.j0])
    | succ bG =>
     have H := HA.out
     clear HA
     simp only [portreeveref04_line.j0] at H
     by_cases c20 : aF = true
     ·subst c20
      have H1 : (some false) = some r := by rw [if_pos rfl] at H; exact H
      clear H
      have H := H1
      clear H1
      obtain rfl := Option.some.inj H
      go_wp2
      go_ret
      exact ⟨by first | rfl | (simp [errW_none, errW_some] <;> rfl) | (simp [*, errW_none, errW_some] <;> rfl), by repeat (first | (with_reducible first | exact HB.out | apply pA | apply pN | apply pD | refine pS ?_ af.out | refine pS ?_ ah.out) | exact HB.out)⟩
     ·replace c20 := Bool.eq_false_iff.mpr c20
      subst c20
      have H1 : (if ab < 0 then (if ((rd_T56 aa a1).f0) = 1 then (if ((rd_T56 aa a1).f2) = 0 then (if ((rd_T56 aa a1).f3) = 0 then (some (((rd_T56 aa a1).f4) == 0)) else (some false)) else (some false)) else (some false)) else (if 0 ≤ ab then (if ab < (aa.length : Int) then (if ((rd_T56 aa ab).f0) = 3 then (portreeveref04_line.j1 bG true ((rd_T56 aa a1).f0) ((rd_T56 aa a1).f1) ((rd_T56 aa a1).f2) ((rd_T56 aa a1).f3) ((rd_T56 aa a1).f4)) else (if ((rd_T56 aa a1).f2) < ((rd_T56 aa ab).f2) then (portreeveref04_line.j1 bG true ((rd_T56 aa a1).f0) ((rd_T56 aa a1).f1) ((rd_T56 aa a1).f2) ((rd_T56 aa a1).f3) ((rd_T56 aa a1).f4)) else (portreeveref04_line.j1 bG (decide (((rd_T56 aa a1).f3) < ((rd_T56 aa ab).f3))) ((rd_T56 aa a1).f0) ((rd_T56 aa a1).f1) ((rd_T56 aa a1).f2) ((rd_T56 aa a1).f3) ((rd_T56 aa a1).f4)))) else (none)) else (none))) = some r := by rw [if_neg (show ¬ (false = true) by decide)] at H; exact H
      clear H
      have H := H1
      clear H1
      by_cases c21 : ab < 0
      ·rw [if_pos c21] at H
       have bH : decide (ab < 0) = true := decide_eq_true c21
       clear c21
       by_cases c22 : ((rd_T56 aa a1).f0) = 1
       ·rw [if_pos c22] at H
        have bI : (((rd_T56 aa a1).f0) == 1) = true := beq_iff_eq.mpr c22
        have bJ : (((rd_T56 aa a1).f0) != 1) = false := bne_eq_false_iff_eq.mpr c22
        clear c22
        by_cases c23 : ((rd_T56 aa a1).f2) = 0
        ·rw [if_pos c23] at H
         have bK : (((rd_T56 aa a1).f2) == 0) = true := beq_iff_eq.mpr c23
         have bL : (((rd_T56 aa a1).f2) != 0) = false := bne_eq_false_iff_eq.mpr c23
         clear c23
         by_cases c24 : ((rd_T56 aa a1).f3) = 0
         ·rw [if_pos c24] at H
          have bM : (((rd_T56 aa a1).f3) == 0) = true := beq_iff_eq.mpr c24
          have bN : (((rd_T56 aa a1).f3) != 0) = false := bne_eq_false_iff_eq.mpr c24
          clear c24
          obtain rfl := Option.some.inj H
          have fg := ad.out
          have fh := ac.out
          obtain ⟨bQ, bR, bS, bT, bU, bV, bW, bX, bY, bZ⟩ := bk5 ae.out
          go_wp2
          go_ret
          exact ⟨by first | rfl | (simp [errW_none, errW_some] <;> rfl) | (simp [*, errW_none, errW_some] <;> rfl), by repeat (first | (with_reducible first | exact HB.out | apply pA | apply pN | apply pD | refine pS ?_ af.out | refine pS ?_ ah.out) | exact HB.out)⟩
         ·rw [if_neg c24] at H
          have bM : (((rd_T56 aa a1).f3) == 0) = false := beq_eq_false_iff_ne.mpr c24
          have bN : (((rd_T56 aa a1).f3) != 0) = true := bne_iff_ne.mpr c24
          obtain rfl := Option.some.inj H
          have fi := ad.out
          have fj := ac.out
          obtain ⟨b0, b1, b2, b3, b4, b5, b6, b7, b8, b9⟩ := bk5 ae.out
          go_wp2
          go_ret
          exact ⟨by first | rfl | (simp [errW_none, errW_some] <;> rfl) | (simp [*, errW_none, errW_some] <;> rfl), by repeat (first | (with_reducible first | exact HB.out | apply pA | apply pN | apply pD | refine pS ?_ af.out | refine pS ?_ ah.out) | exact HB.out)⟩
        ·rw [if_neg c23] at H
         have bK : (((rd_T56 aa a1).f2) == 0) = false := beq_eq_false_iff_ne.mpr c23
         have bL : (((rd_T56 aa a1).f2) != 0) = true := bne_iff_ne.mpr c23
         obtain rfl := Option.some.inj H
         have fk := ad.out
         have fl := ac.out
         obtain ⟨ca, cb, cc, cd, ce, cf, cg, ch, ci, cj⟩ := bk5 ae.out
         go_wp2
         go_ret
         exact ⟨by first | rfl | (simp [errW_none, errW_some] <;> rfl) | (simp [*, errW_none, errW_some] <;> rfl), by repeat (first | (with_reducible first | exact HB.out | apply pA | apply pN | apply pD | refine pS ?_ af.out | refine pS ?_ ah.out) | exact HB.out)⟩
       ·rw [if_neg c22] at H
        have bI : (((rd_T56 aa a1).f0) == 1) = false := beq_eq_false_iff_ne.mpr c22
        have bJ : (((rd_T56 aa a1).f0) != 1) = true := bne_iff_ne.mpr c22
        obtain rfl := Option.some.inj H
        have fm := ad.out
        have fn := ac.out
        obtain ⟨ck, cl, cm, cn, co, cp, cq, cr, ct, cu⟩ := bk5 ae.out
        go_wp2
        go_ret
        exact ⟨by first | rfl | (simp [errW_none, errW_some] <;> rfl) | (simp [*, errW_none, errW_some] <;> rfl), by repeat (first | (with_reducible first | exact HB.out | apply pA | apply pN | apply pD | refine pS ?_ af.out | refine pS ?_ ah.out) | exact HB.out)⟩
      ·rw [if_neg c21] at H
       have bH : decide (ab < 0) = false := decide_eq_false c21
       clear c21
       by_cases c33 : 0 ≤ ab
       ·rw [if_pos c33] at H
        have dM : decide (0 ≤ ab) = true := decide_eq_true c33
        clear c33
        by_cases c34 : ab < (aa.length : Int)
        ·rw [if_pos c34] at H
         have dN : decide (ab < (aa.length : Int)) = true := decide_eq_true c34
         clear c34
         have HC35 := Aside0.mk H
         clear H
         have fo := ac.out
         have fp := ad.out
         obtain ⟨cv, cw, cx, cy, cz, cA, cB, cC⟩ := bk4 ai.out
         have p252 : 0 ≤ (ab : Int) := of_decide_eq_true (by first | (with_reducible assumption) | assumption)
         have q252 : ab < (aa.length : Int) := of_decide_eq_true (by first | (with_reducible assumption) | assumption)
         obtain ⟨dO, e252, hx252_0, hx252_1, hx252_2, hx252_3, hx252_4⟩ := at_T56 bv.out ab p252 q252
         obtain rfl : aq = dO := (by injection e252)
         replace hx252_0 := (HB.out.cell (World.block_lt_of_cell? w _ hx252_0)).trans hx252_0
         replace hx252_1 := (HB.out.cell (World.block_lt_of_cell? w _ hx252_1)).trans hx252_1
         replace hx252_2 := (HB.out.cell (World.block_lt_of_cell? w _ hx252_2)).trans hx252_2
         replace hx252_3 := (HB.out.cell (World.block_lt_of_cell? w _ hx252_3)).trans hx252_3
         replace hx252_4 := (HB.out.cell (World.block_lt_of_cell? w _ hx252_4)).trans hx252_4
         replace p252 := eq_true p252
         replace q252 := eq_true q252
         go_upto_region 8 with (first | ((with_reducible refine gate_dst (N := 7) rfl ?_); refine box_event ?hg (N := 7) ?hd (cs := #[.int .i64 0, .int .i64 0, .int .u64 0, .int .u64 0, .int .i64 0]) (t := 56) ?hr ?_; (case hd => rfl); (case hg => rfl); (case hr => first | (go_simp; done) | (go_simp; rfl)); intro aC hg w38 hbox hb; have n0_ := Aside0.mk (blk_below (g := an) (o := .cells #[.int .i64 ak, .slice au al.length av, .slice (some aq) aa.length aw, .slice ax am.length ay] 46 (0, 0)) (zB ai.out) hb); have n1_ := Aside0.mk (blk_below (g := ap) (o := .cells #[.int .i64 ((rd_T56 aa a1).f0), .int .i64 ((rd_T56 aa a1).f1), .int .u64 ((rd_T56 aa a1).f2), .int .u64 ((rd_T56 aa a1).f3), .int .i64 ((rd_T56 aa a1).f4)] 56 (0, 0)) (zB ae.out) hb); have n2_ := Aside0.mk (below_step (by repeat (first | (with_reducible first | exact HB.out | apply pA | apply pN | apply pD | refine pS ?_ af.out | refine pS ?_ ah.out) | exact HB.out)) hb); have n3_ := Aside0.mk (hbox); have n4_ := Aside0.mk ((by rw [hg]; exact (below_size (by repeat (first | (with_reducible first | exact HB.out | apply pA | apply pN | apply pD | refine pS ?_ af.out | refine pS ?_ ah.out) | exact HB.out))) : w.heap.size ≤ aC)); have n5_ := Aside0.mk ((by rw [hg]; exact (below_size (by repeat (first | (with_reducible first | exact HB.out | apply pA | apply pN | apply pD | refine pS ?_ af.out | refine pS ?_ ah.out) | exact HB.out))) : w.heap.size ≤ aC)); have n6_ := Aside0.mk ((by rw [hg]; exact Nat.ne_of_lt (blk_lt (g := an) (o := .cells #[.int .i64 ak, .slice au al.length av, .slice (some aq) aa.length aw, .slice ax am.length ay] 46 (0, 0)) (zB ai.out)) : an ≠ aC)); have n7_ := Aside0.mk ((by rw [hg]; exact Nat.ne_of_gt (blk_lt (g := an) (o := .cells #[.int .i64 ak, .slice au al.length av, .slice (some aq) aa.length aw, .slice ax am.length ay] 46 (0, 0)) (zB ai.out)) : aC ≠ an)); have n8_ := Aside0.mk ((by rw [hg]; exact Nat.ne_of_lt (blk_lt (g := ap) (o := .cells #[.int .i64 ((rd_T56 aa a1).f0), .int .i64 ((rd_T56 aa a1).f1), .int .u64 ((rd_T56 aa a1).f2), .int .u64 ((rd_T56 aa a1).f3), .int .i64 ((rd_T56 aa a1).f4)] 56 (0, 0)) (zB ae.out)) : ap ≠ aC)); have n9_ := Aside0.mk ((by rw [hg]; exact Nat.ne_of_gt (blk_lt (g := ap) (o := .cells #[.int .i64 ((rd_T56 aa a1).f0), .int .i64 ((rd_T56 aa a1).f1), .int .u64 ((rd_T56 aa a1).f2), .int .u64 ((rd_T56 aa a1).f3), .int .i64 ((rd_T56 aa a1).f4)] 56 (0, 0)) (zB ae.out)) : aC ≠ ap)); clear ai; clear ae; clear HB; have ai := n0_; have ae := n1_; have HB := n2_; have az := n3_; have fq := n4_; have ar := n5_; have ao := n6_; have aA := n7_; have ag := n8_; have aj := n9_; clear n0_ n1_ n2_ n3_ n4_ n5_ n6_ n7_ n8_ n9_; clear hb hbox hg; have fr := aA.out; have fs := ao.out; have ft := aj.out; have fu := ag.out; obtain ⟨cD, cE, cF, cG, cH, cI, cJ, cK, cL, cM⟩ := bk5 az.out))
         (try simp only [Act.put, sT, s0, s1])
         go_cut [69] (fun v69 wc => ∃ (kq : Nat) (aE : Bool), v69 = .bool aE ∧ Aside0 (portreeveref04_line.j1 kq aE ((rd_T56 aa a1).f0) ((rd_T56 aa a1).f1) ((rd_T56 aa a1).f2) ((rd_T56 aa a1).f3) ((rd_T56 aa a1).f4) = some r) ∧ Aside0 (kq ≤ bG) ∧ Aside0 (wc.heap[an]? = some (.cells #[.int .i64 ak, (.slice au al.length av), (.slice (some aq) aa.length aw), (.slice ax am.length ay)] 46 (0, 0))) ∧ Aside0 (wc.heap[ap]? = some (.cells #[.int .i64 ((rd_T56 aa a1).f0), .int .i64 ((rd_T56 aa a1).f1), .int .u64 ((rd_T56 aa a1).f2), .int .u64 ((rd_T56 aa a1).f3), .int .i64 ((rd_T56 aa a1).f4)] 56 (0, 0))) ∧ Aside0 (wc.heap[aC]? = some (.cells #[.int .i64 ((rd_T56 aa ab).f0), .int .i64 ((rd_T56 aa ab).f1), .int .u64 ((rd_T56 aa ab).f2), .int .u64 ((rd_T56 aa ab).f3), .int .i64 ((rd_T56 aa ab).f4)] 56 (0, 0))) ∧ Aside0 (Below w.heap.size w wc))
         case first =>
          have H := HC35.out
          clear HC35
          by_cases c42 : ((rd_T56 aa ab).f0) = 3
          ·rw [if_pos c42] at H
           have aD : (((rd_T56 aa ab).f0) == 3) = true := beq_iff_eq.mpr c42
           have bO : (((rd_T56 aa ab).f0) != 3) = false := bne_eq_false_iff_eq.mpr c42
           clear c42
           (first | rw [aD] | (simp only [i64_w, i32_w]; rw [aD]) | skip)
           have H' := Aside0.mk H
           clear H
           have fv := aA.out
           have fw := ao.out
           have fx := aj.out
           have fy := ag.out
           obtain ⟨cN, cO, cP, cQ, cR, cS, cT, cU, cV, cW⟩ := bk5 az.out
           go_wp2
           go_meet
           case rel => exact ⟨_, (true), (by first | rfl | (simp; done) | (simp [*]; done)), H', ⟨by have := dJ.out; first | omega | exact Nat.le_refl _⟩, ⟨fB ao.out ai.out⟩, ⟨fB ag.out ae.out⟩, ⟨by (with_reducible repeat (first | refine qN ?_ _ | refine qD ?_ | refine qA ?_ _)); refine blk_put (cs := #[.int .i64 ((rd_T56 aa ab).f0), .int .i64 ((rd_T56 aa ab).f1), .int .u64 ((rd_T56 aa ab).f2), .int .u64 ((rd_T56 aa ab).f3), .int .i64 0]) ?_ 4 _ rfl; (with_reducible repeat (first | refine qN ?_ _ | refine qD ?_ | refine qA ?_ _)); refine blk_put (cs := #[.int .i64 ((rd_T56 aa ab).f0), .int .i64 ((rd_T56 aa ab).f1), .int .u64 ((rd_T56 aa ab).f2), .int .u64 0, .int .i64 0]) ?_ 3 _ rfl; (with_reducible repeat (first | refine qN ?_ _ | refine qD ?_ | refine qA ?_ _)); refine blk_put (cs := #[.int .i64 ((rd_T56 aa ab).f0), .int .i64 ((rd_T56 aa ab).f1), .int .u64 0, .int .u64 0, .int .i64 0]) ?_ 2 _ rfl; (with_reducible repeat (first | refine qN ?_ _ | refine qD ?_ | refine qA ?_ _)); refine blk_put (cs := #[.int .i64 ((rd_T56 aa ab).f0), .int .i64 0, .int .u64 0, .int .u64 0, .int .i64 0]) ?_ 1 _ rfl; (with_reducible repeat (first | refine qN ?_ _ | refine qD ?_ | refine qA ?_ _)); refine blk_put (cs := #[.int .i64 0, .int .i64 0, .int .u64 0, .int .u64 0, .int .i64 0]) ?_ 0 _ rfl; (with_reducible repeat (first | refine qN ?_ _ | refine qD ?_ | refine qA ?_ _)); exact az.out⟩, ⟨by repeat (first | (with_reducible first | exact HB.out | apply pA | apply pN | apply pD | refine pS ?_ af.out | refine pS ?_ ah.out | refine pS ?_ ar.out) | exact HB.out)⟩⟩
          ·rw [if_neg c42] at H
           have aD : (((rd_T56 aa ab).f0) == 3) = false := beq_eq_false_iff_ne.mpr c42
           have bO : (((rd_T56 aa ab).f0) != 3) = true := bne_iff_ne.mpr c42
           (first | rw [aD] | (simp only [i64_w, i32_w]; rw [aD]) | skip)
           by_cases c46 : ((rd_T56 aa a1).f2) < ((rd_T56 aa ab).f2)
           ·rw [if_pos c46] at H
            have bP : decide (((rd_T56 aa a1).f2) < ((rd_T56 aa ab).f2)) = true := decide_eq_true c46
            clear c46
            have H' := Aside0.mk H
            clear H
            have fz := aA.out
            have fA := ao.out
            have fD := aj.out
            have fE := ag.out
            obtain ⟨cX, cY, cZ, c0, c6, c7, c8, c9, da, db⟩ := bk5 az.out
            have fF := ad.out
            have fG := ac.out
            obtain ⟨dc, dd, de, df, dg, dh, di, dj, dk, dl⟩ := bk5 ae.out
            go_wp2
            go_meet
            case rel => exact ⟨_, (true), (by first | rfl | (simp; done) | (simp [*]; done)), H', ⟨by have := dJ.out; first | omega | exact Nat.le_refl _⟩, ⟨fB ao.out ai.out⟩, ⟨fB ag.out ae.out⟩, ⟨by (with_reducible repeat (first | refine qN ?_ _ | refine qD ?_ | refine qA ?_ _)); refine blk_put (cs := #[.int .i64 ((rd_T56 aa ab).f0), .int .i64 ((rd_T56 aa ab).f1), .int .u64 ((rd_T56 aa ab).f2), .int .u64 ((rd_T56 aa ab).f3), .int .i64 0]) ?_ 4 _ rfl; (with_reducible repeat (first | refine qN ?_ _ | refine qD ?_ | refine qA ?_ _)); refine blk_put (cs := #[.int .i64 ((rd_T56 aa ab).f0), .int .i64 ((rd_T56 aa ab).f1), .int .u64 ((rd_T56 aa ab).f2), .int .u64 0, .int .i64 0]) ?_ 3 _ rfl; (with_reducible repeat (first | refine qN ?_ _ | refine qD ?_ | refine qA ?_ _)); refine blk_put (cs := #[.int .i64 ((rd_T56 aa ab).f0), .int .i64 ((rd_T56 aa ab).f1), .int .u64 0, .int .u64 0, .int .i64 0]) ?_ 2 _ rfl; (with_reducible repeat (first | refine qN ?_ _ | refine qD ?_ | refine qA ?_ _)); refine blk_put (cs := #[.int .i64 ((rd_T56 aa ab).f0), .int .i64 0, .int .u64 0, .int .u64 0, .int .i64 0]) ?_ 1 _ rfl; (with_reducible repeat (first | refine qN ?_ _ | refine qD ?_ | refine qA ?_ _)); refine blk_put (cs := #[.int .i64 0, .int .i64 0, .int .u64 0, .int .u64 0, .int .i64 0]) ?_ 0 _ rfl; (with_reducible repeat (first | refine qN ?_ _ | refine qD ?_ | refine qA ?_ _)); exact az.out⟩, ⟨by repeat (first | (with_reducible first | exact HB.out | apply pA | apply pN | apply pD | refine pS ?_ af.out | refine pS ?_ ah.out | refine pS ?_ ar.out) | exact HB.out)⟩⟩
           ·rw [if_neg c46] at H
            have bP : decide (((rd_T56 aa a1).f2) < ((rd_T56 aa ab).f2)) = false := decide_eq_false c46
            clear c46
            have H' := Aside0.mk H
            clear H
            have fH := aA.out
            have fI := ao.out
            have fJ := aj.out
            have fK := ag.out
            obtain ⟨dm, dn, dp, dq, dr, ds, dt, du, dv, dw⟩ := bk5 az.out
            have fL := ad.out
            have fM := ac.out
            obtain ⟨dx, dy, dz, dA, dB, dC, dD, dE, dF, dG⟩ := bk5 ae.out
            go_wp2
            go_meet
            case rel => exact ⟨_, (decide (((rd_T56 aa a1).f3) < ((rd_T56 aa ab).f3))), (by first | rfl | (simp; done) | (simp [*]; done)), H', ⟨by have := dJ.out; first | omega | exact Nat.le_refl _⟩, ⟨fB ao.out ai.out⟩, ⟨fB ag.out ae.out⟩, ⟨by (with_reducible repeat (first | refine qN ?_ _ | refine qD ?_ | refine qA ?_ _)); refine blk_put (cs := #[.int .i64 ((rd_T56 aa ab).f0), .int .i64 ((rd_T56 aa ab).f1), .int .u64 ((rd_T56 aa ab).f2), .int .u64 ((rd_T56 aa ab).f3), .int .i64 0]) ?_ 4 _ rfl; (with_reducible repeat (first | refine qN ?_ _ | refine qD ?_ | refine qA ?_ _)); refine blk_put (cs := #[.int .i64 ((rd_T56 aa ab).f0), .int .i64 ((rd_T56 aa ab).f1), .int .u64 ((rd_T56 aa ab).f2), .int .u64 0, .int .i64 0]) ?_ 3 _ rfl; (with_reducible repeat (first | refine qN ?_ _ | refine qD ?_ | refine qA ?_ _)); refine blk_put (cs := #[.int .i64 ((rd_T56 aa ab).f0), .int .i64 ((rd_T56 aa ab).f1), .int .u64 0, .int .u64 0, .int .i64 0]) ?_ 2 _ rfl; (with_reducible repeat (first | refine qN ?_ _ | refine qD ?_ | refine qA ?_ _)); refine blk_put (cs := #[.int .i64 ((rd_T56 aa ab).f0), .int .i64 0, .int .u64 0, .int .u64 0, .int .i64 0]) ?_ 1 _ rfl; (with_reducible repeat (first | refine qN ?_ _ | refine qD ?_ | refine qA ?_ _)); refine blk_put (cs := #[.int .i64 0, .int .i64 0, .int .u64 0, .int .u64 0, .int .i64 0]) ?_ 0 _ rfl; (with_reducible repeat (first | refine qN ?_ _ | refine qD ?_ | refine qA ?_ _)); exact az.out⟩, ⟨by repeat (first | (with_reducible first | exact HB.out | apply pA | apply pN | apply pD | refine pS ?_ af.out | refine pS ?_ ah.out | refine pS ?_ ar.out) | exact HB.out)⟩⟩
         case rest =>
          clear HC35
          try clear c1
          try clear c2
          try clear p2
          try clear q2
          try clear hx2
          try clear c3
          try clear dH
          try clear c4
          try clear dI
          try clear c5
          try clear c10
          try clear c14
          try clear aB
          try clear c15
          try clear c17
          try clear c20
          try clear c21
          try clear bH
          try clear c22
          try clear bI
          try clear bJ
          try clear c23
          try clear bK
          try clear bL
          try clear c24
          try clear bM
          try clear bN
          try clear p24
          try clear q24
          try clear hx24
          try clear c25
          try clear p25
          try clear q25
          try clear hx25
          try clear c27
          try clear c29
          try clear c30
          try clear c31
          try clear c33
          try clear dM
          try clear c34
          try clear dN
          try clear c36
          try clear c39
          try clear c40
          try clear c42
          try clear aD
          try clear bO
          try clear c43
          try clear c44
          try clear c46
          try clear bP
          try clear c47
          try clear c48
          try clear c50
          try clear c52
          try clear c53
          try clear c55
          try clear aG
          try clear aH
          try clear aI
          try clear aJ
          try clear aK
          try clear aQ
          try clear aR
          try clear aS
          try clear aT
          try clear aY
          try clear aZ
          try clear a5
          try clear a6
          try clear a7
          try clear bd
          try clear be
          try clear bf
          try clear bg
          try clear bh
          try clear bn
          try clear bo
          try clear bp
          try clear bq
          try clear bQ
          try clear bR
          try clear bS
          try clear bT
          try clear bU
          try clear b0
          try clear b1
          try clear b2
          try clear b3
          try clear b4
          try clear ca
          try clear cb
          try clear cc
          try clear cd
          try clear ce
          try clear ck
          try clear cl
          try clear cm
          try clear cn
          try clear co
          try clear cv
          try clear cw
          try clear cx
          try clear cy
          try clear cD
          try clear cE
          try clear cF
          try clear cG
          try clear cH
          try clear cN
          try clear cO
          try clear cP
          try clear cQ
          try clear cR
          try clear cX
          try clear cY
          try clear cZ
          try clear c0
          try clear c6
          try clear dc
          try clear dd
          try clear de
          try clear df
          try clear dg
          try clear dm
          try clear dn
          try clear dp
          try clear dq
          try clear dr
          try clear dx
          try clear dy
          try clear dz
          try clear dA
          try clear dB
          try clear bw
          try clear bx
          try clear bz
          try clear bA
          try clear aL
          try clear aM
          try clear aN
          try clear aO
          try clear aP
          try clear aU
          try clear aV
          try clear aW
          try clear aX
          try clear a8
          try clear a9
          try clear ba
          try clear bb
          try clear bc
          try clear bi
          try clear bj
          try clear bk
          try clear bl
          try clear bm
          try clear br
          try clear bs
          try clear bt
          try clear bu
          try clear bV
          try clear bW
          try clear bX
          try clear bY
          try clear bZ
          try clear b5
          try clear b6
          try clear b7
          try clear b8
          try clear b9
          try clear cf
          try clear cg
          try clear ch
          try clear ci
          try clear cj
          try clear cp
          try clear cq
          try clear cr
          try clear ct
          try clear cu
          try clear cz
          try clear cA
          try clear cB
          try clear cC
          try clear cI
          try clear cJ
          try clear cK
          try clear cL
          try clear cM
          try clear cS
          try clear cT
          try clear cU
          try clear cV
          try clear cW
          try clear c7
          try clear c8
          try clear c9
          try clear da
          try clear db
          try clear dh
          try clear di
          try clear dj
          try clear dk
          try clear dl
          try clear ds
          try clear dt
          try clear du
          try clear dv
          try clear dw
          try clear dC
          try clear dD
          try clear dE
          try clear dF
          try clear dG
          try clear bB
          try clear bC
          try clear bD
          try clear bE
          try clear hx249_0
          try clear hx249_1
          try clear hx249_2
          try clear hx249_3
          try clear hx249_4
          try clear hx252_0
          try clear hx252_1
          try clear hx252_2
          try clear hx252_3
          try clear hx252_4
          try clear p2
          try clear p249
          try clear p252
          try clear q2
          try clear q249
          try clear q252
          obtain ⟨kq, aE, rfl, HA, gm, ai, ae, az, HB⟩ := hcut
          cases kq with
          | zero => exact absurd HA.out (by simp [portreeveref04_line.j1])
          | succ gn =>
           have H := HA.out
           clear HA
           simp only [portreeveref04_line.j1] at H
           by_cases c57 : aE = true
           ·subst c57
            have H1 : (some false) = some r := by rw [if_pos rfl] at H; exact H
            clear H
            have H := H1
            clear H1
            obtain rfl := Option.some.inj H
            go_wp2
            go_ret
            exact ⟨by first | rfl | (simp [errW_none, errW_some] <;> rfl) | (simp [*, errW_none, errW_some] <;> rfl), by repeat (first | (with_reducible first | exact HB.out | apply pA | apply pN | apply pD | refine pS ?_ af.out | refine pS ?_ ah.out | refine pS ?_ ar.out) | exact HB.out)⟩
           ·replace c57 := Bool.eq_false_iff.mpr c57
            subst c57
            have H1 : (if ((rd_T56 aa a1).f0) = 2 then (if ((rd_T56 aa a1).f4) = 0 then (some true) else (if ((rd_T56 aa a1).f0) = 3 then (if ((rd_T56 aa a1).f4) ≥ 0 then (some (decide (((rd_T56 aa a1).f4) ≤ 255))) else (some false)) else (some false))) else (if ((rd_T56 aa a1).f0) = 3 then (if ((rd_T56 aa a1).f4) ≥ 0 then (some (decide (((rd_T56 aa a1).f4) ≤ 255))) else (some false)) else (some false))) = some r := by rw [if_neg (show ¬ (false = true) by decide)] at H; exact H
            clear H
            have H := H1
            clear H1
            by_cases c58 : ((rd_T56 aa a1).f0) = 2
            ·rw [if_pos c58] at H
             have dP : (((rd_T56 aa a1).f0) == 2) = true := beq_iff_eq.mpr c58
             have dQ : (((rd_T56 aa a1).f0) != 2) = false := bne_eq_false_iff_eq.mpr c58
             clear c58
             by_cases c59 : ((rd_T56 aa a1).f4) = 0
             ·rw [if_pos c59] at H
              have dR : (((rd_T56 aa a1).f4) == 0) = true := beq_iff_eq.mpr c59
              have dS : (((rd_T56 aa a1).f4) != 0) = false := bne_eq_false_iff_eq.mpr c59
              clear c59
              obtain rfl := Option.some.inj H
              have fN := ad.out
              have fO := ac.out
              have fP := ag.out
              have fQ := aj.out
              obtain ⟨d0, d1, d2, d3, d4, d5, d6, d7, d8, d9⟩ := bk5 ae.out
              go_wp2
              go_ret
              exact ⟨by first | rfl | (simp [errW_none, errW_some] <;> rfl) | (simp [*, errW_none, errW_some] <;> rfl), by repeat (first | (with_reducible first | exact HB.out | apply pA | apply pN | apply pD | refine pS ?_ af.out | refine pS ?_ ah.out | refine pS ?_ ar.out) | exact HB.out)⟩
             ·rw [if_neg c59] at H
              have dR : (((rd_T56 aa a1).f4) == 0) = false := beq_eq_false_iff_ne.mpr c59
              have dS : (((rd_T56 aa a1).f4) != 0) = true := bne_iff_ne.mpr c59
              by_cases c63 : ((rd_T56 aa a1).f0) = 3
              ·rw [if_pos c63] at H
               have dT : (((rd_T56 aa a1).f0) == 3) = true := beq_iff_eq.mpr c63
               have dU : (((rd_T56 aa a1).f0) != 3) = false := bne_eq_false_iff_eq.mpr c63
               clear c63
               by_cases c64 : ((rd_T56 aa a1).f4) ≥ 0
               ·rw [if_pos c64] at H
                have dV : decide (0 ≤ ((rd_T56 aa a1).f4)) = true := decide_eq_true c64
                clear c64
                obtain rfl := Option.some.inj H
                have fS := ad.out
                have fT := ac.out
                have fU := ag.out
                have fW := aj.out
                obtain ⟨ea, eb, ec, ed, ee, ef, eg, eh, ei, ej⟩ := bk5 ae.out
                go_wp2
                go_ret
                exact ⟨by first | rfl | (simp [errW_none, errW_some] <;> rfl) | (simp [*, errW_none, errW_some] <;> rfl), by repeat (first | (with_reducible first | exact HB.out | apply pA | apply pN | apply pD | refine pS ?_ af.out | refine pS ?_ ah.out | refine pS ?_ ar.out) | exact HB.out)⟩
               ·rw [if_neg c64] at H
                have dV : decide (0 ≤ ((rd_T56 aa a1).f4)) = false := decide_eq_false c64
                clear c64
                obtain rfl := Option.some.inj H
                have fX := ad.out
                have fY := ac.out
                have fZ := ag.out
                have f5 := aj.out
                obtain ⟨ek, el, em, en, eo, ep, eq, er, es, et⟩ := bk5 ae.out
                go_wp2
                go_ret
                exact ⟨by first | rfl | (simp [errW_none, errW_some] <;> rfl) | (simp [*, errW_none, errW_some] <;> rfl), by repeat (first | (with_reducible first | exact HB.out | apply pA | apply pN | apply pD | refine pS ?_ af.out | refine pS ?_ ah.out | refine pS ?_ ar.out) | exact HB.out)⟩
              ·rw [if_neg c63] at H
               have dT : (((rd_T56 aa a1).f0) == 3) = false := beq_eq_false_iff_ne.mpr c63
               have dU : (((rd_T56 aa a1).f0) != 3) = true := bne_iff_ne.mpr c63
               obtain rfl := Option.some.inj H
               have f6 := ad.out
               have f7 := ac.out
               have f8 := ag.out
               have f9 := aj.out
               obtain ⟨eu, ev, ew, ex, ey, ez, eA, eB, eC, eD⟩ := bk5 ae.out
               go_wp2
               go_ret
               exact ⟨by first | rfl | (simp [errW_none, errW_some] <;> rfl) | (simp [*, errW_none, errW_some] <;> rfl), by repeat (first | (with_reducible first | exact HB.out | apply pA | apply pN | apply pD | refine pS ?_ af.out | refine pS ?_ ah.out | refine pS ?_ ar.out) | exact HB.out)⟩
            ·rw [if_neg c58] at H
             have dP : (((rd_T56 aa a1).f0) == 2) = false := beq_eq_false_iff_ne.mpr c58
             have dQ : (((rd_T56 aa a1).f0) != 2) = true := bne_iff_ne.mpr c58
             by_cases c74 : ((rd_T56 aa a1).f0) = 3
             ·rw [if_pos c74] at H
              have dW : (((rd_T56 aa a1).f0) == 3) = true := beq_iff_eq.mpr c74
              have dX : (((rd_T56 aa a1).f0) != 3) = false := bne_eq_false_iff_eq.mpr c74
              clear c74
              by_cases c75 : ((rd_T56 aa a1).f4) ≥ 0
              ·rw [if_pos c75] at H
               have dY : decide (0 ≤ ((rd_T56 aa a1).f4)) = true := decide_eq_true c75
               clear c75
               obtain rfl := Option.some.inj H
               have ga := ad.out
               have gb := ac.out
               have gc := ag.out
               have gd := aj.out
               obtain ⟨eE, eF, eG, eH, eI, eJ, eK, eL, eM, eN⟩ := bk5 ae.out
               go_wp2
               go_ret
               exact ⟨by first | rfl | (simp [errW_none, errW_some] <;> rfl) | (simp [*, errW_none, errW_some] <;> rfl), by repeat (first | (with_reducible first | exact HB.out | apply pA | apply pN | apply pD | refine pS ?_ af.out | refine pS ?_ ah.out | refine pS ?_ ar.out) | exact HB.out)⟩
              ·rw [if_neg c75] at H
               have dY : decide (0 ≤ ((rd_T56 aa a1).f4)) = false := decide_eq_false c75
               clear c75
               obtain rfl := Option.some.inj H
               have ge := ad.out
               have gf := ac.out
               have gg := ag.out
               have gh := aj.out
               obtain ⟨eO, eP, eQ, eR, eS, eT, eU, eV, eW, eX⟩ := bk5 ae.out
               go_wp2
               go_ret
               exact ⟨by first | rfl | (simp [errW_none, errW_some] <;> rfl) | (simp [*, errW_none, errW_some] <;> rfl), by repeat (first | (with_reducible first | exact HB.out | apply pA | apply pN | apply pD | refine pS ?_ af.out | refine pS ?_ ah.out | refine pS ?_ ar.out) | exact HB.out)⟩
             ·rw [if_neg c74] at H
              have dW : (((rd_T56 aa a1).f0) == 3) = false := beq_eq_false_iff_ne.mpr c74
              have dX : (((rd_T56 aa a1).f0) != 3) = true := bne_iff_ne.mpr c74
              obtain rfl := Option.some.inj H
              have gi := ad.out
              have gj := ac.out
              have gk := ag.out
              have gl := aj.out
              obtain ⟨eY, eZ, e0, e1, e2, e3, e4, e5, e6, e7⟩ := bk5 ae.out
              go_wp2
              go_ret
              exact ⟨by first | rfl | (simp [errW_none, errW_some] <;> rfl) | (simp [*, errW_none, errW_some] <;> rfl), by repeat (first | (with_reducible first | exact HB.out | apply pA | apply pN | apply pD | refine pS ?_ af.out | refine pS ?_ ah.out | refine pS ?_ ar.out) | exact HB.out)⟩
        ·rw [if_neg c34] at H
         exact absurd H (by simp)
       ·rw [if_neg c33] at H
        exact absurd H (by simp)
  ·rw [if_neg c4] at H
   exact absurd H (by simp)
 ·rw [if_neg c3] at H
  exact absurd H (by simp)

end Go.Proofs.Ytlimlbhhbjaljaa.Q

-- written by this session's own program (wip/tools/myprint.py), over the kit's print
import Derived.Test.YtocjadhpaecpaaaQx0
import Derived.Test.YtocjadhpaecpaaaQx6
import Derived.Test.YtocjadhpaecpaaaQx10
import Derived.Test.YtocjadhpaecpaaaQx11
import Derived.Test.YtocjadhpaecpaaaQx18
import Derived.Test.YtocjadhpaecpaaaQx24
import Derived.Test.YtocjadhpaecpaaaQx28
namespace Go.Proofs.Ytocjadhpaecpaaa.Q
open Go.RowKit Go.Proofs.YtocjadhpaecpaaaW.PrintWords Go.Proofs.YtocjadhpaecpaaaW.PrintLast Go.Proofs.YtocjadhpaecpaaaW.PrintMore
open Go.Proofs.YtocjadhpaecpaaaV
attribute [local go_sem] max2_int min2_int max_two min_two max_three min_three max_four min_four   -- for this text's walks alone
set_option linter.unusedVariables false
set_option linter.unusedSimpArgs false

/-! ### portreevelaw16_GateOthers: function 6 -/
mutual
def portreevelaw16_GateOthers.j0 : Nat → ByteArray → ByteArray → Bool → Int → Bool → Bool → Int → List (S76) → List (S72) → List (S64) → Option (Bool)
 | 0, _, _, _, _, _, _, _, _, _, _ => none
 | k + 1, x4, x5, x6, x7, x8, x50, x417000, x417001, x417002, x417003 => if x50 = true then (some x8) else ((gate_Verdict.f k x417000 x417001 x417002 x417003 x4 true x6 x7).bind fun bt420 => (portreevelaw16_GateOthers.l0 k x5 x7 x8 bt420.2 0 x417000 x417001 x417002 x417003 x417000 x417001 x417002 x417003))
def portreevelaw16_GateOthers.l0 : Nat → ByteArray → Int → Bool → List (S41) → Int → Int → List (S76) → List (S72) → List (S64) → Int → List (S76) → List (S72) → List (S64) → Option (Bool)
 | 0, _, _, _, _, _, _, _, _, _, _, _, _, _ => none
 | k + 1, x5, x7, x8, x10, x12, x417000, x417001, x417002, x417003, x425000, x425001, x425002, x425003 => if x12 < (x10.length : Int) then (if 0 ≤ x12 then ((portreeveref04_Apply.f k x425000 x425001 x425002 x425003 ((rd_T41 x10 x12).f0) ((rd_T41 x10 x12).f1) ((rd_T41 x10 x12).f2) ((rd_T41 x10 x12).f3) ((rd_T41 x10 x12).f4) ((rd_T41 x10 x12).f5) ((rd_T41 x10 x12).f6) ((rd_T41 x10 x12).f7) ((rd_T41 x10 x12).f8)).bind fun bt426 => (portreevelaw16_GateOthers.l0 k x5 x7 x8 x10 (wrap64 (x12 + 1)) x417000 x417001 x417002 x417003 bt426.1 bt426.2.1 bt426.2.2.1 bt426.2.2.2.1)) else (none)) else ((gate_Failed.f x417000 x417001 x417002 x417003 x5).bind fun bt438 => ((gate_Failed.f x425000 x425001 x425002 x425003 x5).bind fun bt440 => ((gate_Verdict.f k x417000 x417001 x417002 x417003 x5 true true x7).bind fun bt442 => ((gate_Verdict.f k x425000 x425001 x425002 x425003 x5 true true x7).bind fun bt446 => (if x8 = true then (if bt438.1 = bt440.1 then (if bt438.2 = bt440.2 then (if (bt442.1 == bt446.1) = true then ((portreeveref16_Ops.f k bt442.2 bt446.2).bind fun t450 => (some t450)) else (some false)) else (some false)) else (some false)) else (some false))))))
end
def portreevelaw16_GateOthers.f (k : Nat) (a0_0 : Int) (l0_1 : List (S76)) (l0_2 : List (S72)) (l0_3 : List (S64)) (a0_4 : ByteArray) (a0_5 : ByteArray) (a0_6 : Bool) (a0_7 : Int) : Option (Bool) := (portreevelaw16_shown.f k).bind fun t417 => ((portreevelaw16_may.f k a0_0 l0_1 l0_2 l0_3 a0_4 a0_7).bind fun t418 => (if t418 = true then ((portreevelaw16_may.f k a0_0 l0_1 l0_2 l0_3 a0_5 a0_7).bind fun t419 => (if t419 = true then (portreevelaw16_GateOthers.j0 k a0_4 a0_5 a0_6 a0_7 t417 (a0_4.toList == a0_5.toList) a0_0 l0_1 l0_2 l0_3) else (portreevelaw16_GateOthers.j0 k a0_4 a0_5 a0_6 a0_7 t417 true a0_0 l0_1 l0_2 l0_3))) else (portreevelaw16_GateOthers.j0 k a0_4 a0_5 a0_6 a0_7 t417 true a0_0 l0_1 l0_2 l0_3)))
theorem portreevelaw16_GateOthers.mono_l : ∀ k, (∀ y0 y1 y2 y3 y4 y5 y6 y7 y8 y9, LeO (portreevelaw16_GateOthers.j0 k y0 y1 y2 y3 y4 y5 y6 y7 y8 y9) (portreevelaw16_GateOthers.j0 (k + 1) y0 y1 y2 y3 y4 y5 y6 y7 y8 y9)) ∧ (∀ y0 y1 y2 y3 y4 y5 y6 y7 y8 y9 y10 y11 y12, LeO (portreevelaw16_GateOthers.l0 k y0 y1 y2 y3 y4 y5 y6 y7 y8 y9 y10 y11 y12) (portreevelaw16_GateOthers.l0 (k + 1) y0 y1 y2 y3 y4 y5 y6 y7 y8 y9 y10 y11 y12))
 | 0 => ⟨fun _ _ _ _ _ _ _ _ _ _ r h => by simp [portreevelaw16_GateOthers.j0] at h, fun _ _ _ _ _ _ _ _ _ _ _ _ _ r h => by simp [portreevelaw16_GateOthers.l0] at h⟩
 | k + 1 => by
  obtain ⟨ih0, ih1⟩ := portreevelaw16_GateOthers.mono_l k
  refine ⟨?_, ?_⟩
  ·intro y0 y1 y2 y3 y4 y5 y6 y7 y8 y9
   unfold portreevelaw16_GateOthers.j0
   repeat' first
   | (with_reducible exact ih0 _ _ _ _ _ _ _ _ _ _)
   | (with_reducible exact ih1 _ _ _ _ _ _ _ _ _ _ _ _ _)
   | (with_reducible exact gate_Verdict.mono _ _ _ _ _ _ _ _ _)
   | (with_reducible exact portreevelaw16_may.mono _ _ _ _ _ _ _)
   | (with_reducible exact portreevelaw16_shown.mono _)
   | (with_reducible exact portreeveref04_Apply.mono _ _ _ _ _ _ _ _ _ _ _ _ _ _)
   | (with_reducible exact portreeveref16_Ops.mono _ _ _)
   | (with_reducible exact LeO.refl _)
   | (with_reducible exact LeO.none _)
   | (with_reducible refine LeO.ite ?_ ?_)
   | (with_reducible refine LeO.bind ?_ (fun _ => ?_))
   | exact ih0 _ _ _ _ _ _ _ _ _ _
   | exact ih1 _ _ _ _ _ _ _ _ _ _ _ _ _
   | exact gate_Verdict.mono _ _ _ _ _ _ _ _ _
   | exact portreevelaw16_may.mono _ _ _ _ _ _ _
   | exact portreevelaw16_shown.mono _
   | exact portreeveref04_Apply.mono _ _ _ _ _ _ _ _ _ _ _ _ _ _
   | exact portreeveref16_Ops.mono _ _ _
   | exact LeO.none _
   | refine LeO.ite ?_ ?_
   | refine LeO.bind ?_ (fun _ => ?_)
  ·intro y0 y1 y2 y3 y4 y5 y6 y7 y8 y9 y10 y11 y12
   unfold portreevelaw16_GateOthers.l0
   repeat' first
   | (with_reducible exact ih0 _ _ _ _ _ _ _ _ _ _)
   | (with_reducible exact ih1 _ _ _ _ _ _ _ _ _ _ _ _ _)
   | (with_reducible exact gate_Verdict.mono _ _ _ _ _ _ _ _ _)
   | (with_reducible exact portreevelaw16_may.mono _ _ _ _ _ _ _)
   | (with_reducible exact portreevelaw16_shown.mono _)
   | (with_reducible exact portreeveref04_Apply.mono _ _ _ _ _ _ _ _ _ _ _ _ _ _)
   | (with_reducible exact portreeveref16_Ops.mono _ _ _)
   | (with_reducible exact LeO.refl _)
   | (with_reducible exact LeO.none _)
   | (with_reducible refine LeO.ite ?_ ?_)
   | (with_reducible refine LeO.bind ?_ (fun _ => ?_))
   | exact ih0 _ _ _ _ _ _ _ _ _ _
   | exact ih1 _ _ _ _ _ _ _ _ _ _ _ _ _
   | exact gate_Verdict.mono _ _ _ _ _ _ _ _ _
   | exact portreevelaw16_may.mono _ _ _ _ _ _ _
   | exact portreevelaw16_shown.mono _
   | exact portreeveref04_Apply.mono _ _ _ _ _ _ _ _ _ _ _ _ _ _
   | exact portreeveref16_Ops.mono _ _ _
   | exact LeO.none _
   | refine LeO.ite ?_ ?_
   | refine LeO.bind ?_ (fun _ => ?_)
theorem portreevelaw16_GateOthers.mono : ∀ a0 a1 a2 a3 a4 a5 a6 a7 k, LeO (portreevelaw16_GateOthers.f k a0 a1 a2 a3 a4 a5 a6 a7) (portreevelaw16_GateOthers.f (k + 1) a0 a1 a2 a3 a4 a5 a6 a7) := by
 intro a0 a1 a2 a3 a4 a5 a6 a7 k
 obtain ⟨ih0, ih1⟩ := portreevelaw16_GateOthers.mono_l k
 unfold portreevelaw16_GateOthers.f
 repeat' first
   | (with_reducible exact ih0 _ _ _ _ _ _ _ _ _ _)
   | (with_reducible exact ih1 _ _ _ _ _ _ _ _ _ _ _ _ _)
   | (with_reducible exact gate_Verdict.mono _ _ _ _ _ _ _ _ _)
   | (with_reducible exact portreevelaw16_may.mono _ _ _ _ _ _ _)
   | (with_reducible exact portreevelaw16_shown.mono _)
   | (with_reducible exact portreeveref04_Apply.mono _ _ _ _ _ _ _ _ _ _ _ _ _ _)
   | (with_reducible exact portreeveref16_Ops.mono _ _ _)
   | (with_reducible exact LeO.refl _)
   | (with_reducible exact LeO.none _)
   | (with_reducible refine LeO.ite ?_ ?_)
   | (with_reducible refine LeO.bind ?_ (fun _ => ?_))
   | exact ih0 _ _ _ _ _ _ _ _ _ _
   | exact ih1 _ _ _ _ _ _ _ _ _ _ _ _ _
   | exact gate_Verdict.mono _ _ _ _ _ _ _ _ _
   | exact portreevelaw16_may.mono _ _ _ _ _ _ _
   | exact portreevelaw16_shown.mono _
   | exact portreeveref04_Apply.mono _ _ _ _ _ _ _ _ _ _ _ _ _ _
   | exact portreeveref16_Ops.mono _ _ _
   | exact LeO.none _
   | refine LeO.ite ?_ ?_
   | refine LeO.bind ?_ (fun _ => ?_)
def portreevelaw16_GateOthers.T14 : Bool × List (List Nat × List Nat) := (true, [([], []), ([], []), ([], []), ([1, 2], [1, 2]), ([3], [3]), ([0, 4], [0, 4]), ([5], [5]), ([6], [6]), ([6], [6]), ([], []), ([9, 7, 5, 0, 1, 2, 3, 4, 5, 6, 7, 9], [7, 9]), ([8, 10, 0, 1, 2, 3, 4, 5, 6, 7, 8, 9, 10], [8])])
def portreevelaw16_GateOthers.B14 : List Nat := [0, 0, 0, 6, 14, 31, 63, 127, 127, 0, 767, 2047]
theorem portreevelaw16_GateOthers.tab14 : rtab .any (opsOf Try.f6 14) = portreevelaw16_GateOthers.T14 := by kernel_rfl
theorem portreevelaw16_GateOthers.bits14 : waitsOk portreevelaw16_GateOthers.T14.2 portreevelaw16_GateOthers.B14 = true := by kernel_rfl
set_option maxHeartbeats 8000000 in
set_option maxRecDepth 100000 in
theorem portreevelaw16_GateOthers.calls (k : Nat) (ah : Int) (aJ : Nat → Prop) (ar : Option Addr) (au : Nat) (ac : List (S76)) (aK : Nat → Prop) (av : Option Addr) (aw : Nat) (ad : List (S72)) (aL : Nat → Prop) (aB : Option Addr) (aC : Nat) (ae : List (S64)) (aM : ByteArray) (aG : ByteArray) (aR : Bool) (aI : Int) (r : Bool) (w : World) (hlaw_ : Aside0 (r = true)) (hs0_1 : Kd.V k76 76 w w.heap.size (fun k_ => aJ k_) (.slice ar ac.length au) ac) (hs0_2 : Kd.V k72 72 w w.heap.size (fun k_ => aK k_) (.slice av ad.length aw) ad) (hs0_3 : Kd.V k64 64 w w.heap.size (fun k_ => aL k_) (.slice aB ae.length aC) ae) (h : portreevelaw16_GateOthers.f k ah ac ad ae aM aG aR aI = some r) :
  Calls Try.prog 6 #[.agg #[.int .i64 ah, .slice ar ac.length au, .slice av ad.length aw, .slice aB ae.length aC, .string aM, .string aG, .bool aR, .int .i64 aI]] w fun e w' => e = .returned (.bool r) ∧ Below w.heap.size w w' := by
 have hu52 := Try.underlying52
 have hu26 := Try.underlying26
 have hu41 := Try.underlying41
 have aT := Aside0.mk (show Kd.V k76 76 w w.heap.size (fun k_ => ((aJ k_ ∨ aK k_ ∨ aL k_) ∨ w.heap.size ≤ k_)) (.slice ar ac.length au) ac from Kd.V_mono hs0_1 (fun k_ hk => .inl (.inl hk)))
 have aU := Aside0.mk (show Kd.V k72 72 w w.heap.size (fun k_ => ((aJ k_ ∨ aK k_ ∨ aL k_) ∨ w.heap.size ≤ k_)) (.slice av ad.length aw) ad from Kd.V_mono hs0_2 (fun k_ hk => .inl (.inr (.inl hk))))
 have aV := Aside0.mk (show Kd.V k64 64 w w.heap.size (fun k_ => ((aJ k_ ∨ aK k_ ∨ aL k_) ∨ w.heap.size ≤ k_)) (.slice aB ae.length aC) ae from Kd.V_mono hs0_3 (fun k_ hk => .inl (.inr (.inr hk))))
 have HB := Aside0.mk (Below.refl w.heap.size w)
 have H : ((portreevelaw16_shown.f k).bind fun aY => ((portreevelaw16_may.f k ah ac ad ae aM aI).bind fun bP => (if bP = true then ((portreevelaw16_may.f k ah ac ad ae aG aI).bind fun bx => (if bx = true then (portreevelaw16_GateOthers.j0 k aM aG aR aI aY (aM.toList == aG.toList) ah ac ad ae) else (portreevelaw16_GateOthers.j0 k aM aG aR aI aY true ah ac ad ae))) else (portreevelaw16_GateOthers.j0 k aM aG aR aI aY true ah ac ad ae)))) = some r := h
 clear h
 replace H := Option.bind_eq_some_iff.mp H
 obtain ⟨aY, ef, H⟩ := H
 replace H : ((portreevelaw16_may.f k ah ac ad ae aM aI).bind fun bP => (if bP = true then ((portreevelaw16_may.f k ah ac ad ae aG aI).bind fun bx => (if bx = true then (portreevelaw16_GateOthers.j0 k aM aG aR aI aY (aM.toList == aG.toList) ah ac ad ae) else (portreevelaw16_GateOthers.j0 k aM aG aR aI aY true ah ac ad ae))) else (portreevelaw16_GateOthers.j0 k aM aG aR aI aY true ah ac ad ae))) = some r := H
 have A2 := Aside0.mk ef
 clear ef
 have HC3 := Aside0.mk H
 clear H
 go_enter Try.func6, Try.ntmps6
 go_upto_region 7 with (first | ((with_reducible refine gate_dst (N := 1) rfl ?_); refine box_event ?hg (N := 1) ?hd (cs := #[.int .i64 ah, .slice ar ac.length au, .slice av ad.length aw, .slice aB ae.length aC, .string aM, .string aG, .bool aR, .int .i64 aI]) (t := 52) ?hr ?_; (case hd => rfl); (case hg => rfl); (case hr => first | (go_simp; done) | (go_simp; rfl)); intro af hg w4 hbox hb; have n0_ := Aside0.mk (Kd.V_below (Kd.V_elderB (zV aT.out) af (Nat.le_of_eq hg.symm)) hb); have n1_ := Aside0.mk (Kd.V_below (Kd.V_elderB (zV aU.out) af (Nat.le_of_eq hg.symm)) hb); have n2_ := Aside0.mk (Kd.V_below (Kd.V_elderB (zV aV.out) af (Nat.le_of_eq hg.symm)) hb); have n3_ := Aside0.mk (below_step (zH HB.out) hb); have n4_ := Aside0.mk (hbox); have n5_ := Aside0.mk ((by rw [hg]; exact (below_size (zH HB.out)) : w.heap.size ≤ af)); have n6_ := Aside0.mk ((by rw [hg]; exact (below_size (zH HB.out)) : w.heap.size ≤ af)); clear aT; clear aU; clear aV; clear HB; have aT := n0_; have aU := n1_; have aV := n2_; have HB := n3_; have ao := n4_; have fp := n5_; have aP := n6_; clear n0_ n1_ n2_ n3_ n4_ n5_ n6_; clear hb hbox hg; obtain ⟨cD, cE, cF, cG, cH, cI, cJ, cK, cL, cM, cN, cO, cP, cQ, cR, cS⟩ := bk8 ao.out) | ((with_reducible refine gate_dst (N := 3) rfl ?_); refine box_event ?hg (N := 3) ?hd (cs := #[.int .i64 0, .slice none 0 0, .slice none 0 0, .slice none 0 0]) (t := 26) ?hr ?_; (case hd => rfl); (case hg => rfl); (case hr => first | (go_simp; done) | (go_simp; rfl)); intro ag hg w6 hbox hb; have n0_ := Aside0.mk (Kd.V_below (Kd.V_elderB (zV aT.out) ag (Nat.le_of_eq hg.symm)) hb); have n1_ := Aside0.mk (Kd.V_below (Kd.V_elderB (zV aU.out) ag (Nat.le_of_eq hg.symm)) hb); have n2_ := Aside0.mk (Kd.V_below (Kd.V_elderB (zV aV.out) ag (Nat.le_of_eq hg.symm)) hb); have n3_ := Aside0.mk (blk_below (g := af) (o := .cells #[.int .i64 ah, .slice ar ac.length au, .slice av ad.length aw, .slice aB ae.length aC, .string aM, .string aG, .bool aR, .int .i64 aI] 52 (0, 0)) (zB ao.out) hb); have n4_ := Aside0.mk (below_step (by repeat (first | (with_reducible first | exact HB.out | apply pA | apply pN | apply pD | refine pS ?_ aP.out) | exact HB.out)) hb); have n5_ := Aside0.mk (hbox); have n6_ := Aside0.mk ((by rw [hg]; exact (below_size (by repeat (first | (with_reducible first | exact HB.out | apply pA | apply pN | apply pD | refine pS ?_ aP.out) | exact HB.out))) : w.heap.size ≤ ag)); have n7_ := Aside0.mk ((by rw [hg]; exact (below_size (by repeat (first | (with_reducible first | exact HB.out | apply pA | apply pN | apply pD | refine pS ?_ aP.out) | exact HB.out))) : w.heap.size ≤ ag)); have n8_ := Aside0.mk ((by rw [hg]; exact Nat.ne_of_lt (blk_lt (g := af) (o := .cells #[.int .i64 ah, .slice ar ac.length au, .slice av ad.length aw, .slice aB ae.length aC, .string aM, .string aG, .bool aR, .int .i64 aI] 52 (0, 0)) (zB ao.out)) : af ≠ ag)); have n9_ := Aside0.mk ((by rw [hg]; exact Nat.ne_of_gt (blk_lt (g := af) (o := .cells #[.int .i64 ah, .slice ar ac.length au, .slice av ad.length aw, .slice aB ae.length aC, .string aM, .string aG, .bool aR, .int .i64 aI] 52 (0, 0)) (zB ao.out)) : ag ≠ af)); clear aT; clear aU; clear aV; clear ao; clear HB; have aT := n0_; have aU := n1_; have aV := n2_; have ao := n3_; have HB := n4_; have aj := n5_; have fq := n6_; have aQ := n7_; have bk := n8_; have bl := n9_; clear n0_ n1_ n2_ n3_ n4_ n5_ n6_ n7_ n8_ n9_; clear hb hbox hg; have f9 := bl.out; have ga := bk.out; obtain ⟨cT, cU, cV, cW, cX, cY, cZ, c0⟩ := bk4 aj.out; obtain ⟨c4, c5, c8, da, db, dc, dd, de, df, dg, dh, di, dj, dk, dl, dm⟩ := bk8 ao.out) | ((with_reducible refine gate_callee (f := 9) rfl ?_); refine goesL_ (some 33) rfl rfl Try.func9 (by kernel_rfl) rfl #[] rfl (by (try simp only [List.map_toArray, List.map_cons, List.map_nil]); first | done | rfl | (simp only [List.length_drop, List.length_take]; rfl)) ?_; (with_reducible refine (portreevelaw16_shown.calls k  aY _ A2.out).mono ?_); rintro e w10 ⟨rfl, hb⟩; refine ⟨_, rfl, ?_⟩; have n0_ := Aside0.mk (Kd.V_below (fV aT.out (fun k_ hk => (⟨hk, hk.2⟩ : _ ∧ k_ ≠ ag)) (fun _ h_ => h_.1)) hb); have n1_ := Aside0.mk (Kd.V_below (fV aU.out (fun k_ hk => (⟨hk, hk.2⟩ : _ ∧ k_ ≠ ag)) (fun _ h_ => h_.1)) hb); have n2_ := Aside0.mk (Kd.V_below (fV aV.out (fun k_ hk => (⟨hk, hk.2⟩ : _ ∧ k_ ≠ ag)) (fun _ h_ => h_.1)) hb); have n3_ := Aside0.mk (blk_below (g := af) (o := .cells #[.int .i64 ah, .slice ar ac.length au, .slice av ad.length aw, .slice aB ae.length aC, .string aM, .string aG, .bool aR, .int .i64 aI] 52 (0, 0)) (fB bk.out ao.out) hb); have n4_ := Aside0.mk (blk_below (g := ag) (o := .cells #[.int .i64 ah, .slice ar ac.length au, .slice av ad.length aw, .slice aB ae.length aC] 26 (0, 0)) (by (with_reducible repeat (first | refine qN ?_ _ | refine qD ?_ | refine qA ?_ _)); refine blk_put (cs := #[.int .i64 ah, .slice ar ac.length au, .slice av ad.length aw, .slice none 0 0]) ?_ 3 _ rfl; (with_reducible repeat (first | refine qN ?_ _ | refine qD ?_ | refine qA ?_ _)); refine blk_put (cs := #[.int .i64 ah, .slice ar ac.length au, .slice none 0 0, .slice none 0 0]) ?_ 2 _ rfl; (with_reducible repeat (first | refine qN ?_ _ | refine qD ?_ | refine qA ?_ _)); refine blk_put (cs := #[.int .i64 ah, .slice none 0 0, .slice none 0 0, .slice none 0 0]) ?_ 1 _ rfl; (with_reducible repeat (first | refine qN ?_ _ | refine qD ?_ | refine qA ?_ _)); refine blk_put (cs := #[.int .i64 0, .slice none 0 0, .slice none 0 0, .slice none 0 0]) ?_ 0 _ rfl; (with_reducible repeat (first | refine qN ?_ _ | refine qD ?_ | refine qA ?_ _)); exact aj.out) hb); have n5_ := Aside0.mk (below_step (by repeat (first | (with_reducible first | exact HB.out | apply pA | apply pN | apply pD | refine pS ?_ aP.out | refine pS ?_ aQ.out) | exact HB.out)) hb); clear aT; clear aU; clear aV; clear ao; clear aj; clear HB; have aT := n0_; have aU := n1_; have aV := n2_; have ao := n3_; have aj := n4_; have HB := n5_; clear n0_ n1_ n2_ n3_ n4_ n5_; (try clear hb); (try clear hb2); (try clear hk); (try clear hi)))
 (try simp only [Act.put, sT, s0, s1])
 go_cut [50] (fun v50 wc => ∃ (kq : Nat) (bQ : Bool), v50 = .bool bQ ∧ Aside0 (portreevelaw16_GateOthers.j0 kq aM aG aR aI aY bQ ah ac ad ae = some r) ∧ Aside0 (kq ≤ k) ∧ Aside0 (Kd.V k76 76 wc w.heap.size (fun k_ => ((aJ k_ ∨ aK k_ ∨ aL k_) ∨ w.heap.size ≤ k_) ∧ k_ ≠ af ∧ k_ ≠ ag) (.slice ar ac.length au) ac) ∧ Aside0 (Kd.V k72 72 wc w.heap.size (fun k_ => ((aJ k_ ∨ aK k_ ∨ aL k_) ∨ w.heap.size ≤ k_) ∧ k_ ≠ af ∧ k_ ≠ ag) (.slice av ad.length aw) ad) ∧ Aside0 (Kd.V k64 64 wc w.heap.size (fun k_ => ((aJ k_ ∨ aK k_ ∨ aL k_) ∨ w.heap.size ≤ k_) ∧ k_ ≠ af ∧ k_ ≠ ag) (.slice aB ae.length aC) ae) ∧ Aside0 (Kd.V k76 76 wc w.heap.size (fun k_ => ((aJ k_ ∨ aK k_ ∨ aL k_) ∨ w.heap.size ≤ k_) ∧ k_ ≠ af ∧ k_ ≠ ag) (.slice ar ac.length au) ac) ∧ Aside0 (Kd.V k72 72 wc w.heap.size (fun k_ => ((aJ k_ ∨ aK k_ ∨ aL k_) ∨ w.heap.size ≤ k_) ∧ k_ ≠ af ∧ k_ ≠ ag) (.slice av ad.length aw) ad) ∧ Aside0 (Kd.V k64 64 wc w.heap.size (fun k_ => ((aJ k_ ∨ aK k_ ∨ aL k_) ∨ w.heap.size ≤ k_) ∧ k_ ≠ af ∧ k_ ≠ ag) (.slice aB ae.length aC) ae) ∧ Aside0 (wc.heap[af]? = some (.cells #[.int .i64 ah, (.slice ar ac.length au), (.slice av ad.length aw), (.slice aB ae.length aC), .string aM, .string aG, .bool aR, .int .i64 aI] 52 (0, 0))) ∧ Aside0 (wc.heap[ag]? = some (.cells #[.int .i64 ah, (.slice ar ac.length au), (.slice av ad.length aw), (.slice aB ae.length aC)] 26 (0, 0))) ∧ Aside0 (Below w.heap.size w wc))
 case first =>
  have H := HC3.out
  clear HC3
  replace H := Option.bind_eq_some_iff.mp H
  obtain ⟨bP, dQ, H⟩ := H
  replace H : (if bP = true then ((portreevelaw16_may.f k ah ac ad ae aG aI).bind fun bx => (if bx = true then (portreevelaw16_GateOthers.j0 k aM aG aR aI aY (aM.toList == aG.toList) ah ac ad ae) else (portreevelaw16_GateOthers.j0 k aM aG aR aI aY true ah ac ad ae))) else (portreevelaw16_GateOthers.j0 k aM aG aR aI aY true ah ac ad ae)) = some r := H
  have dR := Aside0.mk dQ
  clear dQ
  by_cases c12 : bP = true
  ·subst c12
   have H1 : ((portreevelaw16_may.f k ah ac ad ae aG aI).bind fun bx => (if bx = true then (portreevelaw16_GateOthers.j0 k aM aG aR aI aY (aM.toList == aG.toList) ah ac ad ae) else (portreevelaw16_GateOthers.j0 k aM aG aR aI aY true ah ac ad ae))) = some r := by rw [if_pos rfl] at H; exact H
   clear H
   have H := H1
   clear H1
   replace H := Option.bind_eq_some_iff.mp H
   obtain ⟨bx, dS, H⟩ := H
   replace H : (if bx = true then (portreevelaw16_GateOthers.j0 k aM aG aR aI aY (aM.toList == aG.toList) ah ac ad ae) else (portreevelaw16_GateOthers.j0 k aM aG aR aI aY true ah ac ad ae)) = some r := H
   have eg := Aside0.mk dS
   clear dS
   by_cases c14 : bx = true
   ·subst c14
    have H1 : (portreevelaw16_GateOthers.j0 k aM aG aR aI aY (aM.toList == aG.toList) ah ac ad ae) = some r := by rw [if_pos rfl] at H; exact H
    clear H
    have H := H1
    clear H1
    have H' := Aside0.mk H
    clear H
    have fr := bl.out
    have fs := bk.out
    obtain ⟨bV, bW, bX, bY, bZ, b0, b1, b2⟩ := bk4 aj.out
    go_wp2_with (first | ((with_reducible refine gate_callee (f := 10) rfl ?_); refine goesL_ (some 37) rfl rfl Try.func10 (by kernel_rfl) rfl #[.agg #[.int .i64 ah, .slice ar ac.length au, .slice av ad.length aw, .slice aB ae.length aC], .string aM, .int .i64 aI] rfl (by (try simp only [List.map_toArray, List.map_cons, List.map_nil]); first | done | rfl | (simp only [List.length_drop, List.length_take]; rfl)) ?_; (with_reducible refine (portreevelaw16_may.calls k ah _ _ ac _ _ ad _ _ ae aM aI true _ ?side1 ?side2 ?side3 ?side4 ?side5 ?side6 dR.out).mono ?_); (case side1 => repeat (first | exact (Kd.V_reads' aT.out).2.2 | (with_reducible refine Kd.C_alloc ?_ _) | (with_reducible refine Kd.C_drewN ?_ _) | (with_reducible refine Kd.C_drew ?_))); (case side2 => exact (Kd.V_reads' aT.out).2.1); (case side3 => repeat (first | exact (Kd.V_reads' aU.out).2.2 | (with_reducible refine Kd.C_alloc ?_ _) | (with_reducible refine Kd.C_drewN ?_ _) | (with_reducible refine Kd.C_drew ?_))); (case side4 => exact (Kd.V_reads' aU.out).2.1); (case side5 => repeat (first | exact (Kd.V_reads' aV.out).2.2 | (with_reducible refine Kd.C_alloc ?_ _) | (with_reducible refine Kd.C_drewN ?_ _) | (with_reducible refine Kd.C_drew ?_))); (case side6 => exact (Kd.V_reads' aV.out).2.1); rintro e w17 ⟨rfl, hb⟩; refine ⟨_, rfl, ?_⟩; have n0_ := Aside0.mk (Kd.V_below (zV aT.out) hb); have n1_ := Aside0.mk (Kd.V_below (zV aU.out) hb); have n2_ := Aside0.mk (Kd.V_below (zV aV.out) hb); have n3_ := Aside0.mk (blk_below (g := af) (o := .cells #[.int .i64 ah, .slice ar ac.length au, .slice av ad.length aw, .slice aB ae.length aC, .string aM, .string aG, .bool aR, .int .i64 aI] 52 (0, 0)) (zB ao.out) hb); have n4_ := Aside0.mk (blk_below (g := ag) (o := .cells #[.int .i64 ah, .slice ar ac.length au, .slice av ad.length aw, .slice aB ae.length aC] 26 (0, 0)) (zB aj.out) hb); have n5_ := Aside0.mk (below_step (by repeat (first | (with_reducible first | exact HB.out | apply pA | apply pN | apply pD | refine pS ?_ aP.out | refine pS ?_ aQ.out) | exact HB.out)) hb); clear aT; clear aU; clear aV; clear ao; clear aj; clear HB; have aT := n0_; have aU := n1_; have aV := n2_; have ao := n3_; have aj := n4_; have HB := n5_; clear n0_ n1_ n2_ n3_ n4_ n5_; (try clear hb); (try clear hb2); (try clear hk); (try clear hi); obtain ⟨b3, b4, b5, b6, b7, b8, b9, ca⟩ := bk4 aj.out) | (go_at_call 10; (with_reducible refine (portreevelaw16_may.calls k ah _ _ ac _ _ ad _ _ ae aG aI true _ ?side1 ?side2 ?side3 ?side4 ?side5 ?side6 eg.out).mono ?_); (case side1 => repeat (first | exact (Kd.V_reads' aT.out).2.2 | (with_reducible refine Kd.C_alloc ?_ _) | (with_reducible refine Kd.C_drewN ?_ _) | (with_reducible refine Kd.C_drew ?_))); (case side2 => exact (Kd.V_reads' aT.out).2.1); (case side3 => repeat (first | exact (Kd.V_reads' aU.out).2.2 | (with_reducible refine Kd.C_alloc ?_ _) | (with_reducible refine Kd.C_drewN ?_ _) | (with_reducible refine Kd.C_drew ?_))); (case side4 => exact (Kd.V_reads' aU.out).2.1); (case side5 => repeat (first | exact (Kd.V_reads' aV.out).2.2 | (with_reducible refine Kd.C_alloc ?_ _) | (with_reducible refine Kd.C_drewN ?_ _) | (with_reducible refine Kd.C_drew ?_))); (case side6 => exact (Kd.V_reads' aV.out).2.1); rintro e w19 ⟨rfl, hb⟩; have n0_ := Aside0.mk (Kd.V_below (zV aT.out) hb); have n1_ := Aside0.mk (Kd.V_below (zV aU.out) hb); have n2_ := Aside0.mk (Kd.V_below (zV aV.out) hb); have n3_ := Aside0.mk (blk_below (g := af) (o := .cells #[.int .i64 ah, .slice ar ac.length au, .slice av ad.length aw, .slice aB ae.length aC, .string aM, .string aG, .bool aR, .int .i64 aI] 52 (0, 0)) (zB ao.out) hb); have n4_ := Aside0.mk (blk_below (g := ag) (o := .cells #[.int .i64 ah, .slice ar ac.length au, .slice av ad.length aw, .slice aB ae.length aC] 26 (0, 0)) (zB aj.out) hb); have n5_ := Aside0.mk (below_step (by repeat (first | (with_reducible first | exact HB.out | apply pA | apply pN | apply pD | refine pS ?_ aP.out | refine pS ?_ aQ.out) | exact HB.out)) hb); clear aT; clear aU; clear aV; clear ao; clear aj; clear HB; have aT := n0_; have aU := n1_; have aV := n2_; have ao := n3_; have aj := n4_; have HB := n5_; clear n0_ n1_ n2_ n3_ n4_ n5_; (try clear hb); (try clear hb2); (try clear hk); (try clear hi)))
    go_meet
    case rel => exact ⟨_, ((aM.toList == aG.toList)), (by first | rfl | (simp; done) | (simp [*]; done)), H', ⟨by first | omega | exact Nat.le_refl _⟩, ⟨zV (Kd.V_mono aT.out (fun _ hk => ⟨hk.1.1, ⟨hk.1.2, hk.2⟩⟩))⟩, ⟨zV (Kd.V_mono aU.out (fun _ hk => ⟨hk.1.1, ⟨hk.1.2, hk.2⟩⟩))⟩, ⟨zV (Kd.V_mono aV.out (fun _ hk => ⟨hk.1.1, ⟨hk.1.2, hk.2⟩⟩))⟩, ⟨zV (Kd.V_mono aT.out (fun _ hk => ⟨hk.1.1, ⟨hk.1.2, hk.2⟩⟩))⟩, ⟨zV (Kd.V_mono aU.out (fun _ hk => ⟨hk.1.1, ⟨hk.1.2, hk.2⟩⟩))⟩, ⟨zV (Kd.V_mono aV.out (fun _ hk => ⟨hk.1.1, ⟨hk.1.2, hk.2⟩⟩))⟩, ⟨zB ao.out⟩, ⟨zB aj.out⟩, ⟨by repeat (first | (with_reducible first | exact HB.out | apply pA | apply pN | apply pD | refine pS ?_ aP.out | refine pS ?_ aQ.out) | exact HB.out)⟩⟩
   ·replace c14 := Bool.eq_false_iff.mpr c14
    subst c14
    have H1 : (portreevelaw16_GateOthers.j0 k aM aG aR aI aY true ah ac ad ae) = some r := by rw [if_neg (show ¬ (false = true) by decide)] at H; exact H
    clear H
    have H := H1
    clear H1
    have H' := Aside0.mk H
    clear H
    have ft := bl.out
    have fu := bk.out
    obtain ⟨cb, cc, cd, ce, cf, cg, ch, ci⟩ := bk4 aj.out
    go_wp2_with (first | ((with_reducible refine gate_callee (f := 10) rfl ?_); refine goesL_ (some 37) rfl rfl Try.func10 (by kernel_rfl) rfl #[.agg #[.int .i64 ah, .slice ar ac.length au, .slice av ad.length aw, .slice aB ae.length aC], .string aM, .int .i64 aI] rfl (by (try simp only [List.map_toArray, List.map_cons, List.map_nil]); first | done | rfl | (simp only [List.length_drop, List.length_take]; rfl)) ?_; (with_reducible refine (portreevelaw16_may.calls k ah _ _ ac _ _ ad _ _ ae aM aI true _ ?side1 ?side2 ?side3 ?side4 ?side5 ?side6 dR.out).mono ?_); (case side1 => repeat (first | exact (Kd.V_reads' aT.out).2.2 | (with_reducible refine Kd.C_alloc ?_ _) | (with_reducible refine Kd.C_drewN ?_ _) | (with_reducible refine Kd.C_drew ?_))); (case side2 => exact (Kd.V_reads' aT.out).2.1); (case side3 => repeat (first | exact (Kd.V_reads' aU.out).2.2 | (with_reducible refine Kd.C_alloc ?_ _) | (with_reducible refine Kd.C_drewN ?_ _) | (with_reducible refine Kd.C_drew ?_))); (case side4 => exact (Kd.V_reads' aU.out).2.1); (case side5 => repeat (first | exact (Kd.V_reads' aV.out).2.2 | (with_reducible refine Kd.C_alloc ?_ _) | (with_reducible refine Kd.C_drewN ?_ _) | (with_reducible refine Kd.C_drew ?_))); (case side6 => exact (Kd.V_reads' aV.out).2.1); rintro e w22 ⟨rfl, hb⟩; refine ⟨_, rfl, ?_⟩; have n0_ := Aside0.mk (Kd.V_below (zV aT.out) hb); have n1_ := Aside0.mk (Kd.V_below (zV aU.out) hb); have n2_ := Aside0.mk (Kd.V_below (zV aV.out) hb); have n3_ := Aside0.mk (blk_below (g := af) (o := .cells #[.int .i64 ah, .slice ar ac.length au, .slice av ad.length aw, .slice aB ae.length aC, .string aM, .string aG, .bool aR, .int .i64 aI] 52 (0, 0)) (zB ao.out) hb); have n4_ := Aside0.mk (blk_below (g := ag) (o := .cells #[.int .i64 ah, .slice ar ac.length au, .slice av ad.length aw, .slice aB ae.length aC] 26 (0, 0)) (zB aj.out) hb); have n5_ := Aside0.mk (below_step (by repeat (first | (with_reducible first | exact HB.out | apply pA | apply pN | apply pD | refine pS ?_ aP.out | refine pS ?_ aQ.out) | exact HB.out)) hb); clear aT; clear aU; clear aV; clear ao; clear aj; clear HB; have aT := n0_; have aU := n1_; have aV := n2_; have ao := n3_; have aj := n4_; have HB := n5_; clear n0_ n1_ n2_ n3_ n4_ n5_; (try clear hb); (try clear hb2); (try clear hk); (try clear hi); obtain ⟨cj, ck, cl, cm, cn, co, cp, cq⟩ := bk4 aj.out) | (go_at_call 10; (with_reducible refine (portreevelaw16_may.calls k ah _ _ ac _ _ ad _ _ ae aG aI false _ ?side1 ?side2 ?side3 ?side4 ?side5 ?side6 eg.out).mono ?_); (case side1 => repeat (first | exact (Kd.V_reads' aT.out).2.2 | (with_reducible refine Kd.C_alloc ?_ _) | (with_reducible refine Kd.C_drewN ?_ _) | (with_reducible refine Kd.C_drew ?_))); (case side2 => exact (Kd.V_reads' aT.out).2.1); (case side3 => repeat (first | exact (Kd.V_reads' aU.out).2.2 | (with_reducible refine Kd.C_alloc ?_ _) | (with_reducible refine Kd.C_drewN ?_ _) | (with_reducible refine Kd.C_drew ?_))); (case side4 => exact (Kd.V_reads' aU.out).2.1); (case side5 => repeat (first | exact (Kd.V_reads' aV.out).2.2 | (with_reducible refine Kd.C_alloc ?_ _) | (with_reducible refine Kd.C_drewN ?_ _) | (with_reducible refine Kd.C_drew ?_))); (case side6 => exact (Kd.V_reads' aV.out).2.1); rintro e w24 ⟨rfl, hb⟩; have n0_ := Aside0.mk (Kd.V_below (zV aT.out) hb); have n1_ := Aside0.mk (Kd.V_below (zV aU.out) hb); have n2_ := Aside0.mk (Kd.V_below (zV aV.out) hb); have n3_ := Aside0.mk (blk_below (g := af) (o := .cells #[.int .i64 ah, .slice ar ac.length au, .slice av ad.length aw, .slice aB ae.length aC, .string aM, .string aG, .bool aR, .int .i64 aI] 52 (0, 0)) (zB ao.out) hb); have n4_ := Aside0.mk (blk_below (g := ag) (o := .cells #[.int .i64 ah, .slice ar ac.length au, .slice av ad.length aw, .slice aB ae.length aC] 26 (0, 0)) (zB aj.out) hb); have n5_ := Aside0.mk (below_step (by repeat (first | (with_reducible first | exact HB.out | apply pA | apply pN | apply pD | refine pS ?_ aP.out | refine pS ?_ aQ.out) | exact HB.out)) hb); clear aT; clear aU; clear aV; clear ao; clear aj; clear HB; have aT := n0_; have aU := n1_; have aV := n2_; have ao := n3_; have aj := n4_; have HB := n5_; clear n0_ n1_ n2_ n3_ n4_ n5_; (try clear hb); (try clear hb2); (try clear hk); (try clear hi)))
    go_meet
    case rel => exact ⟨_, (true), (by first | rfl | (simp; done) | (simp [*]; done)), H', ⟨by first | omega | exact Nat.le_refl _⟩, ⟨zV (Kd.V_mono aT.out (fun _ hk => ⟨hk.1.1, ⟨hk.1.2, hk.2⟩⟩))⟩, ⟨zV (Kd.V_mono aU.out (fun _ hk => ⟨hk.1.1, ⟨hk.1.2, hk.2⟩⟩))⟩, ⟨zV (Kd.V_mono aV.out (fun _ hk => ⟨hk.1.1, ⟨hk.1.2, hk.2⟩⟩))⟩, ⟨zV (Kd.V_mono aT.out (fun _ hk => ⟨hk.1.1, ⟨hk.1.2, hk.2⟩⟩))⟩, ⟨zV (Kd.V_mono aU.out (fun _ hk => ⟨hk.1.1, ⟨hk.1.2, hk.2⟩⟩))⟩, ⟨zV (Kd.V_mono aV.out (fun _ hk => ⟨hk.1.1, ⟨hk.1.2, hk.2⟩⟩))⟩, ⟨zB ao.out⟩, ⟨zB aj.out⟩, ⟨by repeat (first | (with_reducible first | exact HB.out | apply pA | apply pN | apply pD | refine pS ?_ aP.out | refine pS ?_ aQ.out) | exact HB.out)⟩⟩
  ·replace c12 := Bool.eq_false_iff.mpr c12
   subst c12
   have H1 : (portreevelaw16_GateOthers.j0 k aM aG aR aI aY true ah ac ad ae) = some r := by rw [if_neg (show ¬ (false = true) by decide)] at H; exact H
   clear H
   have H := H1
   clear H1
   have H' := Aside0.mk H
   clear H
   have fv := bl.out
   have fw := bk.out
   obtain ⟨cr, ct, cu, cv, cw, cx, cy, cz⟩ := bk4 aj.out
   go_wp2_with (first | ((with_reducible refine gate_callee (f := 10) rfl ?_); refine goesL_ (some 37) rfl rfl Try.func10 (by kernel_rfl) rfl #[.agg #[.int .i64 ah, .slice ar ac.length au, .slice av ad.length aw, .slice aB ae.length aC], .string aM, .int .i64 aI] rfl (by (try simp only [List.map_toArray, List.map_cons, List.map_nil]); first | done | rfl | (simp only [List.length_drop, List.length_take]; rfl)) ?_; (with_reducible refine (portreevelaw16_may.calls k ah _ _ ac _ _ ad _ _ ae aM aI false _ ?side1 ?side2 ?side3 ?side4 ?side5 ?side6 dR.out).mono ?_); (case side1 => repeat (first | exact (Kd.V_reads' aT.out).2.2 | (with_reducible refine Kd.C_alloc ?_ _) | (with_reducible refine Kd.C_drewN ?_ _) | (with_reducible refine Kd.C_drew ?_))); (case side2 => exact (Kd.V_reads' aT.out).2.1); (case side3 => repeat (first | exact (Kd.V_reads' aU.out).2.2 | (with_reducible refine Kd.C_alloc ?_ _) | (with_reducible refine Kd.C_drewN ?_ _) | (with_reducible refine Kd.C_drew ?_))); (case side4 => exact (Kd.V_reads' aU.out).2.1); (case side5 => repeat (first | exact (Kd.V_reads' aV.out).2.2 | (with_reducible refine Kd.C_alloc ?_ _) | (with_reducible refine Kd.C_drewN ?_ _) | (with_reducible refine Kd.C_drew ?_))); (case side6 => exact (Kd.V_reads' aV.out).2.1); rintro e w27 ⟨rfl, hb⟩; refine ⟨_, rfl, ?_⟩; have n0_ := Aside0.mk (Kd.V_below (zV aT.out) hb); have n1_ := Aside0.mk (Kd.V_below (zV aU.out) hb); have n2_ := Aside0.mk (Kd.V_below (zV aV.out) hb); have n3_ := Aside0.mk (blk_below (g := af) (o := .cells #[.int .i64 ah, .slice ar ac.length au, .slice av ad.length aw, .slice aB ae.length aC, .string aM, .string aG, .bool aR, .int .i64 aI] 52 (0, 0)) (zB ao.out) hb); have n4_ := Aside0.mk (blk_below (g := ag) (o := .cells #[.int .i64 ah, .slice ar ac.length au, .slice av ad.length aw, .slice aB ae.length aC] 26 (0, 0)) (zB aj.out) hb); have n5_ := Aside0.mk (below_step (by repeat (first | (with_reducible first | exact HB.out | apply pA | apply pN | apply pD | refine pS ?_ aP.out | refine pS ?_ aQ.out) | exact HB.out)) hb); clear aT; clear aU; clear aV; clear ao; clear aj; clear HB; have aT := n0_; have aU := n1_; have aV := n2_; have ao := n3_; have aj := n4_; have HB := n5_; clear n0_ n1_ n2_ n3_ n4_ n5_; (try clear hb); (try clear hb2); (try clear hk); (try clear hi)))
   go_meet
   case rel => exact ⟨_, (true), (by first | rfl | (simp; done) | (simp [*]; done)), H', ⟨by first | omega | exact Nat.le_refl _⟩, ⟨zV (Kd.V_mono aT.out (fun _ hk => ⟨hk.1.1, ⟨hk.1.2, hk.2⟩⟩))⟩, ⟨zV (Kd.V_mono aU.out (fun _ hk => ⟨hk.1.1, ⟨hk.1.2, hk.2⟩⟩))⟩, ⟨zV (Kd.V_mono aV.out (fun _ hk => ⟨hk.1.1, ⟨hk.1.2, hk.2⟩⟩))⟩, ⟨zV (Kd.V_mono aT.out (fun _ hk => ⟨hk.1.1, ⟨hk.1.2, hk.2⟩⟩))⟩, ⟨zV (Kd.V_mono aU.out (fun _ hk => ⟨hk.1.1, ⟨hk.1.2, hk.2⟩⟩))⟩, ⟨zV (Kd.V_mono aV.out (fun _ hk => ⟨hk.1.1, ⟨hk.1.2, hk.2⟩⟩))⟩, ⟨zB ao.out⟩, ⟨zB aj.out⟩, ⟨by repeat (first | (with_reducible first | exact HB.out | apply pA | apply pN | apply pD | refine pS ?_ aP.out | refine pS ?_ aQ.out) | exact HB.out)⟩⟩
 case rest =>
  clear HC3
  try clear c1
  try clear c2
  try clear p2
  try clear c6
  try clear c7
  try clear c9
  try clear c10
  try clear c12
  try clear c14
  try clear c15
  try clear c20
  try clear c25
  try clear bV
  try clear bW
  try clear bX
  try clear bY
  try clear b3
  try clear b4
  try clear b5
  try clear b6
  try clear cb
  try clear cc
  try clear cd
  try clear ce
  try clear cj
  try clear ck
  try clear cl
  try clear cm
  try clear cr
  try clear ct
  try clear cu
  try clear cv
  try clear cD
  try clear cE
  try clear cF
  try clear cG
  try clear cH
  try clear cI
  try clear cJ
  try clear cK
  try clear cT
  try clear cU
  try clear cV
  try clear cW
  try clear c4
  try clear c5
  try clear c8
  try clear da
  try clear db
  try clear dc
  try clear dd
  try clear de
  try clear bZ
  try clear b0
  try clear b1
  try clear b2
  try clear b7
  try clear b8
  try clear b9
  try clear ca
  try clear cf
  try clear cg
  try clear ch
  try clear ci
  try clear cn
  try clear co
  try clear cp
  try clear cq
  try clear cw
  try clear cx
  try clear cy
  try clear cz
  try clear cL
  try clear cM
  try clear cN
  try clear cO
  try clear cP
  try clear cQ
  try clear cR
  try clear cS
  try clear cX
  try clear cY
  try clear cZ
  try clear c0
  try clear df
  try clear dg
  try clear dh
  try clear di
  try clear dj
  try clear dk
  try clear dl
  try clear dm
  obtain ⟨kq, bQ, rfl, HA, eh, ax, ay, az, ak, al, am, ao, aj, HB⟩ := hcut
  cases kq with
  | zero => exact absurd HA.out (by simp [portreevelaw16_GateOthers.j0])
  | succ cA =>
   have H := HA.out
   clear HA
   simp only [portreevelaw16_GateOthers.j0] at H
   by_cases c28 : bQ = true
   ·subst c28
    have H1 : (some aY) = some r := by rw [if_pos rfl] at H; exact H
    clear H
    have H := H1
    clear H1
    clear hlaw_
    obtain rfl := Option.some.inj H
    go_wp2
    go_ret
    exact ⟨by first | rfl | (simp [errW_none, errW_some] <;> rfl) | (simp [*, errW_none, errW_some] <;> rfl), by repeat (first | (with_reducible first | exact HB.out | apply pA | apply pN | apply pD | refine pS ?_ aP.out | refine pS ?_ aQ.out) | exact HB.out)⟩
   ·replace c28 := Bool.eq_false_iff.mpr c28
    subst c28
    have H1 : ((gate_Verdict.f cA ah ac ad ae aM true aR aI).bind fun d6 => (portreevelaw16_GateOthers.l0 cA aG aI aY d6.2 0 ah ac ad ae ah ac ad ae)) = some r := by rw [if_neg (show ¬ (false = true) by decide)] at H; exact H
    clear H
    have H := H1
    clear H1
    replace H := Option.bind_eq_some_iff.mp H
    obtain ⟨⟨ek, aN⟩, dT, H⟩ := H
    replace H : (portreevelaw16_GateOthers.l0 cA aG aI aY aN 0 ah ac ad ae ah ac ad ae) = some r := H
    have fj := Aside0.mk dT
    clear dT
    have H' := Aside0.mk H
    clear H
    have fx := bl.out
    have fy := bk.out
    obtain ⟨dr, dt, du, dv, dw, dx, dy, dz⟩ := bk4 aj.out
    go_wp2_with (first | ((with_reducible refine gate_callee (f := 11) rfl ?_); refine goesL_ (some 57) rfl rfl Try.func11 (by kernel_rfl) rfl #[.agg #[.int .i64 ah, .slice ar ac.length au, .slice av ad.length aw, .slice aB ae.length aC], .string aM, .bool true, .bool aR, .int .i64 aI] rfl (by (try simp only [List.map_toArray, List.map_cons, List.map_nil]); first | done | rfl | (simp only [List.length_drop, List.length_take]; rfl)) ?_; (with_reducible refine (gate_Verdict.calls cA ah _ _ ac _ _ ad _ _ ae aM true aR aI ek aN _ ?side1 ?side2 ?side3 ?side4 ?side5 ?side6 fj.out).mono ?_); (case side1 => repeat (first | exact (Kd.V_reads' ak.out).2.2 | (with_reducible refine Kd.C_alloc ?_ _) | (with_reducible refine Kd.C_drewN ?_ _) | (with_reducible refine Kd.C_drew ?_))); (case side2 => exact (Kd.V_reads' ak.out).2.1); (case side3 => repeat (first | exact (Kd.V_reads' al.out).2.2 | (with_reducible refine Kd.C_alloc ?_ _) | (with_reducible refine Kd.C_drewN ?_ _) | (with_reducible refine Kd.C_drew ?_))); (case side4 => exact (Kd.V_reads' al.out).2.1); (case side5 => repeat (first | exact (Kd.V_reads' am.out).2.2 | (with_reducible refine Kd.C_alloc ?_ _) | (with_reducible refine Kd.C_drewN ?_ _) | (with_reducible refine Kd.C_drew ?_))); (case side6 => exact (Kd.V_reads' am.out).2.1); rintro e w32 ⟨v422, rfl, ho0, hb⟩; refine ⟨_, rfl, ?_⟩; have n0_ := Aside0.mk (Kd.V_below (zV ax.out) hb); have n1_ := Aside0.mk (Kd.V_below (zV ay.out) hb); have n2_ := Aside0.mk (Kd.V_below (zV az.out) hb); have n3_ := Aside0.mk (Kd.V_below (zV ak.out) hb); have n4_ := Aside0.mk (Kd.V_below (zV al.out) hb); have n5_ := Aside0.mk (Kd.V_below (zV am.out) hb); have n6_ := Aside0.mk (Kd.V_lower (Kd.V_mono (ok' := fun k_ => ((aJ k_ ∨ aK k_ ∨ aL k_) ∨ w.heap.size ≤ k_) ∧ k_ ≠ af ∧ k_ ≠ ag) ho0 (fun k_ hk_ => ⟨(.inr (Nat.le_trans (below_size (by repeat (first | (with_reducible first | exact HB.out | apply pA | apply pN | apply pD | refine pS ?_ aP.out | refine pS ?_ aQ.out) | exact HB.out))) hk_)), (Kd.freshB (g := af) (o := .cells #[.int .i64 ah, .slice ar ac.length au, .slice av ad.length aw, .slice aB ae.length aC, .string aM, .string aG, .bool aR, .int .i64 aI] 52 (0, 0)) (zB ao.out) k_ hk_), (Kd.freshB (g := ag) (o := .cells #[.int .i64 ah, .slice ar ac.length au, .slice av ad.length aw, .slice aB ae.length aC] 26 (0, 0)) (zB aj.out) k_ hk_)⟩)) (below_size (by repeat (first | (with_reducible first | exact HB.out | apply pA | apply pN | apply pD | refine pS ?_ aP.out | refine pS ?_ aQ.out) | exact HB.out)))); have n7_ := Aside0.mk (blk_below (g := af) (o := .cells #[.int .i64 ah, .slice ar ac.length au, .slice av ad.length aw, .slice aB ae.length aC, .string aM, .string aG, .bool aR, .int .i64 aI] 52 (0, 0)) (zB ao.out) hb); have n8_ := Aside0.mk (blk_below (g := ag) (o := .cells #[.int .i64 ah, .slice ar ac.length au, .slice av ad.length aw, .slice aB ae.length aC] 26 (0, 0)) (zB aj.out) hb); have n9_ := Aside0.mk (below_step (by repeat (first | (with_reducible first | exact HB.out | apply pA | apply pN | apply pD | refine pS ?_ aP.out | refine pS ?_ aQ.out) | exact HB.out)) hb); clear ax; clear ay; clear az; clear ak; clear al; clear am; clear ao; clear aj; clear HB; have ax := n0_; have ay := n1_; have az := n2_; have ak := n3_; have al := n4_; have am := n5_; have bR := n6_; have ao := n7_; have aj := n8_; have HB := n9_; clear n0_ n1_ n2_ n3_ n4_ n5_ n6_ n7_ n8_ n9_; (try clear hb); (try clear hb2); (try clear hk); (try clear hi); (try clear ho0); obtain ⟨dA, dB, dC, dD, dE, dF, dG, dH⟩ := bk4 aj.out) | ((with_reducible refine gate_dst (N := 11) rfl ?_); refine box_event ?hg (N := 11) ?hd (cs := #[.int .i64 0, .slice none 0 0, .slice none 0 0, .slice none 0 0]) (t := 26) ?hr ?_; (case hd => rfl); (case hg => rfl); (case hr => first | (go_simp; done) | (go_simp; rfl)); intro ab hg w34 hbox hb; have n0_ := Aside0.mk (Kd.V_below (Kd.V_elderB (zV ax.out) ab (Nat.le_of_eq hg.symm)) hb); have n1_ := Aside0.mk (Kd.V_below (Kd.V_elderB (zV ay.out) ab (Nat.le_of_eq hg.symm)) hb); have n2_ := Aside0.mk (Kd.V_below (Kd.V_elderB (zV az.out) ab (Nat.le_of_eq hg.symm)) hb); have n3_ := Aside0.mk (Kd.V_below (Kd.V_elderB (zV ak.out) ab (Nat.le_of_eq hg.symm)) hb); have n4_ := Aside0.mk (Kd.V_below (Kd.V_elderB (zV al.out) ab (Nat.le_of_eq hg.symm)) hb); have n5_ := Aside0.mk (Kd.V_below (Kd.V_elderB (zV am.out) ab (Nat.le_of_eq hg.symm)) hb); have n6_ := Aside0.mk (Kd.V_below (Kd.V_elderB (zV bR.out) ab (Nat.le_of_eq hg.symm)) hb); have n7_ := Aside0.mk (blk_below (g := af) (o := .cells #[.int .i64 ah, .slice ar ac.length au, .slice av ad.length aw, .slice aB ae.length aC, .string aM, .string aG, .bool aR, .int .i64 aI] 52 (0, 0)) (zB ao.out) hb); have n8_ := Aside0.mk (blk_below (g := ag) (o := .cells #[.int .i64 ah, .slice ar ac.length au, .slice av ad.length aw, .slice aB ae.length aC] 26 (0, 0)) (zB aj.out) hb); have n9_ := Aside0.mk (below_step (by repeat (first | (with_reducible first | exact HB.out | apply pA | apply pN | apply pD | refine pS ?_ aP.out | refine pS ?_ aQ.out) | exact HB.out)) hb); have n10_ := Aside0.mk (hbox); have n11_ := Aside0.mk ((by rw [hg]; exact (below_size (by repeat (first | (with_reducible first | exact HB.out | apply pA | apply pN | apply pD | refine pS ?_ aP.out | refine pS ?_ aQ.out) | exact HB.out))) : w.heap.size ≤ ab)); have n12_ := Aside0.mk ((by rw [hg]; exact (below_size (by repeat (first | (with_reducible first | exact HB.out | apply pA | apply pN | apply pD | refine pS ?_ aP.out | refine pS ?_ aQ.out) | exact HB.out))) : w.heap.size ≤ ab)); have n13_ := Aside0.mk ((by rw [hg]; exact Nat.ne_of_lt (blk_lt (g := af) (o := .cells #[.int .i64 ah, .slice ar ac.length au, .slice av ad.length aw, .slice aB ae.length aC, .string aM, .string aG, .bool aR, .int .i64 aI] 52 (0, 0)) (zB ao.out)) : af ≠ ab)); have n14_ := Aside0.mk ((by rw [hg]; exact Nat.ne_of_gt (blk_lt (g := af) (o := .cells #[.int .i64 ah, .slice ar ac.length au, .slice av ad.length aw, .slice aB ae.length aC, .string aM, .string aG, .bool aR, .int .i64 aI] 52 (0, 0)) (zB ao.out)) : ab ≠ af)); have n15_ := Aside0.mk ((by rw [hg]; exact Nat.ne_of_lt (blk_lt (g := ag) (o := .cells #[.int .i64 ah, .slice ar ac.length au, .slice av ad.length aw, .slice aB ae.length aC] 26 (0, 0)) (zB aj.out)) : ag ≠ ab)); have n16_ := Aside0.mk ((by rw [hg]; exact Nat.ne_of_gt (blk_lt (g := ag) (o := .cells #[.int .i64 ah, .slice ar ac.length au, .slice av ad.length aw, .slice aB ae.length aC] 26 (0, 0)) (zB aj.out)) : ab ≠ ag)); clear ax; clear ay; clear az; clear ak; clear al; clear am; clear bR; clear ao; clear aj; clear HB; have ax := n0_; have ay := n1_; have az := n2_; have ak := n3_; have al := n4_; have am := n5_; have bR := n6_; have ao := n7_; have aj := n8_; have HB := n9_; have aH := n10_; have fz := n11_; have aW := n12_; have bm := n13_; have bD := n14_; have bn := n15_; have bE := n16_; clear n0_ n1_ n2_ n3_ n4_ n5_ n6_ n7_ n8_ n9_ n10_ n11_ n12_ n13_ n14_ n15_ n16_; clear hb hbox hg; have fA := bD.out; have fD := bm.out; have fE := bE.out; have fF := bn.out; obtain ⟨dI, dJ, dK, dL, dM, dN, dO, dP⟩ := bk4 aH.out))
    go_loopg [12] cA (fun kq v12 w' => ∃ (aa : Int) (aA : Int) (aq : List (S76)) (ap : List (S72)) (an : List (S64)) (u425001 : Value) (u425002 : Value) (u425003 : Value), v12 = .int .i64 aa ∧ Aside0 (portreevelaw16_GateOthers.l0 kq aG aI aY aN aa ah ac ad ae aA aq ap an = some r) ∧ Aside0 (kq ≤ cA) ∧ Aside0 (Kd.V k41 41 w' w.heap.size (fun k_ => ((aJ k_ ∨ aK k_ ∨ aL k_) ∨ w.heap.size ≤ k_) ∧ k_ ≠ af ∧ k_ ≠ ag ∧ k_ ≠ ab) v422 aN) ∧ Aside0 (Kd.V k76 76 w' w.heap.size (fun k_ => ((aJ k_ ∨ aK k_ ∨ aL k_) ∨ w.heap.size ≤ k_) ∧ k_ ≠ af ∧ k_ ≠ ag ∧ k_ ≠ ab) (.slice ar ac.length au) ac) ∧ Aside0 (Kd.V k72 72 w' w.heap.size (fun k_ => ((aJ k_ ∨ aK k_ ∨ aL k_) ∨ w.heap.size ≤ k_) ∧ k_ ≠ af ∧ k_ ≠ ag ∧ k_ ≠ ab) (.slice av ad.length aw) ad) ∧ Aside0 (Kd.V k64 64 w' w.heap.size (fun k_ => ((aJ k_ ∨ aK k_ ∨ aL k_) ∨ w.heap.size ≤ k_) ∧ k_ ≠ af ∧ k_ ≠ ag ∧ k_ ≠ ab) (.slice aB ae.length aC) ae) ∧ Aside0 (Kd.V k76 76 w' w.heap.size (fun k_ => ((aJ k_ ∨ aK k_ ∨ aL k_) ∨ w.heap.size ≤ k_) ∧ k_ ≠ af ∧ k_ ≠ ag ∧ k_ ≠ ab) (.slice ar ac.length au) ac) ∧ Aside0 (Kd.V k72 72 w' w.heap.size (fun k_ => ((aJ k_ ∨ aK k_ ∨ aL k_) ∨ w.heap.size ≤ k_) ∧ k_ ≠ af ∧ k_ ≠ ag ∧ k_ ≠ ab) (.slice av ad.length aw) ad) ∧ Aside0 (Kd.V k64 64 w' w.heap.size (fun k_ => ((aJ k_ ∨ aK k_ ∨ aL k_) ∨ w.heap.size ≤ k_) ∧ k_ ≠ af ∧ k_ ≠ ag ∧ k_ ≠ ab) (.slice aB ae.length aC) ae) ∧ Aside0 (Kd.V k76 76 w' w.heap.size (fun k_ => ((aJ k_ ∨ aK k_ ∨ aL k_) ∨ w.heap.size ≤ k_) ∧ k_ ≠ af ∧ k_ ≠ ag ∧ k_ ≠ ab) u425001 aq) ∧ Aside0 (Kd.V k72 72 w' w.heap.size (fun k_ => ((aJ k_ ∨ aK k_ ∨ aL k_) ∨ w.heap.size ≤ k_) ∧ k_ ≠ af ∧ k_ ≠ ag ∧ k_ ≠ ab) u425002 ap) ∧ Aside0 (Kd.V k64 64 w' w.heap.size (fun k_ => ((aJ k_ ∨ aK k_ ∨ aL k_) ∨ w.heap.size ≤ k_) ∧ k_ ≠ af ∧ k_ ≠ ag ∧ k_ ≠ ab) u425003 an) ∧ Aside0 (w'.heap[af]? = some (.cells #[.int .i64 ah, (.slice ar ac.length au), (.slice av ad.length aw), (.slice aB ae.length aC), .string aM, .string aG, .bool aR, .int .i64 aI] 52 (0, 0))) ∧ Aside0 (w'.heap[ag]? = some (.cells #[.int .i64 ah, (.slice ar ac.length au), (.slice av ad.length aw), (.slice aB ae.length aC)] 26 (0, 0))) ∧ Aside0 (w'.heap[ab]? = some (.cells #[.int .i64 aA, u425001, u425002, u425003] 26 (0, 0))) ∧ Aside0 (Below w.heap.size w w'))
    case atStart => exact ⟨(0), (ah), (ac), (ad), (ae), (.slice ar ac.length au), (.slice av ad.length aw), (.slice aB ae.length aC), (by first | rfl | (simp; done) | (simp [*]; done)), H', ⟨Nat.le_refl _⟩, ⟨(fV bR.out (fun k_ hk => (⟨hk, hk.2⟩ : _ ∧ k_ ≠ ab)) (fun _ hk => ⟨hk.1.1.1, ⟨hk.1.1.2.1, ⟨hk.1.1.2.2, hk.1.2⟩⟩⟩))⟩, ⟨(fV ax.out (fun k_ hk => (⟨hk, hk.2⟩ : _ ∧ k_ ≠ ab)) (fun _ hk => ⟨hk.1.1.1, ⟨hk.1.1.2.1, ⟨hk.1.1.2.2, hk.1.2⟩⟩⟩))⟩, ⟨(fV ay.out (fun k_ hk => (⟨hk, hk.2⟩ : _ ∧ k_ ≠ ab)) (fun _ hk => ⟨hk.1.1.1, ⟨hk.1.1.2.1, ⟨hk.1.1.2.2, hk.1.2⟩⟩⟩))⟩, ⟨(fV az.out (fun k_ hk => (⟨hk, hk.2⟩ : _ ∧ k_ ≠ ab)) (fun _ hk => ⟨hk.1.1.1, ⟨hk.1.1.2.1, ⟨hk.1.1.2.2, hk.1.2⟩⟩⟩))⟩, ⟨(fV ak.out (fun k_ hk => (⟨hk, hk.2⟩ : _ ∧ k_ ≠ ab)) (fun _ hk => ⟨hk.1.1.1, ⟨hk.1.1.2.1, ⟨hk.1.1.2.2, hk.1.2⟩⟩⟩))⟩, ⟨(fV al.out (fun k_ hk => (⟨hk, hk.2⟩ : _ ∧ k_ ≠ ab)) (fun _ hk => ⟨hk.1.1.1, ⟨hk.1.1.2.1, ⟨hk.1.1.2.2, hk.1.2⟩⟩⟩))⟩, ⟨(fV am.out (fun k_ hk => (⟨hk, hk.2⟩ : _ ∧ k_ ≠ ab)) (fun _ hk => ⟨hk.1.1.1, ⟨hk.1.1.2.1, ⟨hk.1.1.2.2, hk.1.2⟩⟩⟩))⟩, ⟨(fV ak.out (fun k_ hk => (⟨hk, hk.2⟩ : _ ∧ k_ ≠ ab)) (fun _ hk => ⟨hk.1.1.1, ⟨hk.1.1.2.1, ⟨hk.1.1.2.2, hk.1.2⟩⟩⟩))⟩, ⟨(fV al.out (fun k_ hk => (⟨hk, hk.2⟩ : _ ∧ k_ ≠ ab)) (fun _ hk => ⟨hk.1.1.1, ⟨hk.1.1.2.1, ⟨hk.1.1.2.2, hk.1.2⟩⟩⟩))⟩, ⟨(fV am.out (fun k_ hk => (⟨hk, hk.2⟩ : _ ∧ k_ ≠ ab)) (fun _ hk => ⟨hk.1.1.1, ⟨hk.1.1.2.1, ⟨hk.1.1.2.2, hk.1.2⟩⟩⟩))⟩, ⟨fB bm.out ao.out⟩, ⟨fB bn.out aj.out⟩, ⟨by (with_reducible repeat (first | refine qN ?_ _ | refine qD ?_ | refine qA ?_ _)); refine blk_put (cs := #[.int .i64 ah, .slice ar ac.length au, .slice av ad.length aw, .slice none 0 0]) ?_ 3 _ rfl; (with_reducible repeat (first | refine qN ?_ _ | refine qD ?_ | refine qA ?_ _)); refine blk_put (cs := #[.int .i64 ah, .slice ar ac.length au, .slice none 0 0, .slice none 0 0]) ?_ 2 _ rfl; (with_reducible repeat (first | refine qN ?_ _ | refine qD ?_ | refine qA ?_ _)); refine blk_put (cs := #[.int .i64 ah, .slice none 0 0, .slice none 0 0, .slice none 0 0]) ?_ 1 _ rfl; (with_reducible repeat (first | refine qN ?_ _ | refine qD ?_ | refine qA ?_ _)); refine blk_put (cs := #[.int .i64 0, .slice none 0 0, .slice none 0 0, .slice none 0 0]) ?_ 0 _ rfl; (with_reducible repeat (first | refine qN ?_ _ | refine qD ?_ | refine qA ?_ _)); exact aH.out⟩, ⟨by repeat (first | (with_reducible first | exact HB.out | apply pA | apply pN | apply pD | refine pS ?_ aP.out | refine pS ?_ aQ.out | refine pS ?_ aW.out) | exact HB.out)⟩⟩
    case round =>
     clear H'
     try clear c1
     try clear c2
     try clear p2
     try clear c3
     try clear c6
     try clear c7
     try clear c9
     try clear c10
     try clear c11
     try clear c12
     try clear c14
     try clear c15
     try clear c20
     try clear c25
     try clear c28
     try clear c30
     try clear c35
     try clear c36
     try clear bV
     try clear bW
     try clear bX
     try clear bY
     try clear b3
     try clear b4
     try clear b5
     try clear b6
     try clear cb
     try clear cc
     try clear cd
     try clear ce
     try clear cj
     try clear ck
     try clear cl
     try clear cm
     try clear cr
     try clear ct
     try clear cu
     try clear cv
     try clear dr
     try clear dt
     try clear du
     try clear dv
     try clear dA
     try clear dB
     try clear dC
     try clear dD
     try clear dI
     try clear dJ
     try clear dK
     try clear dL
     try clear cD
     try clear cE
     try clear cF
     try clear cG
     try clear cH
     try clear cI
     try clear cJ
     try clear cK
     try clear cT
     try clear cU
     try clear cV
     try clear cW
     try clear c4
     try clear c5
     try clear c8
     try clear da
     try clear db
     try clear dc
     try clear dd
     try clear de
     try clear bZ
     try clear b0
     try clear b1
     try clear b2
     try clear b7
     try clear b8
     try clear b9
     try clear ca
     try clear cf
     try clear cg
     try clear ch
     try clear ci
     try clear cn
     try clear co
     try clear cp
     try clear cq
     try clear cw
     try clear cx
     try clear cy
     try clear cz
     try clear dw
     try clear dx
     try clear dy
     try clear dz
     try clear dE
     try clear dF
     try clear dG
     try clear dH
     try clear dM
     try clear dN
     try clear dO
     try clear dP
     try clear cL
     try clear cM
     try clear cN
     try clear cO
     try clear cP
     try clear cQ
     try clear cR
     try clear cS
     try clear cX
     try clear cY
     try clear cZ
     try clear c0
     try clear df
     try clear dg
     try clear dh
     try clear di
     try clear dj
     try clear dk
     try clear dl
     try clear dm
     try clear p2
     obtain ⟨aa, aA, aq, ap, an, u425001, u425002, u425003, rfl, HA, ei, aS, ax, ay, az, ak, al, am, aD, aE, aF, ao, aj, aH, HB⟩ := hrel
     cases gk with
     | zero => exact absurd HA.out (by simp [portreevelaw16_GateOthers.l0])
     | succ k2 =>
      have H := HA.out
      clear HA
      simp only [portreevelaw16_GateOthers.l0] at H
      by_cases c38 : aa < (aN.length : Int)
      ·rw [if_pos c38] at H
       have d7 : decide (aa < (aN.length : Int)) = true := decide_eq_true c38
       clear c38
       by_cases c39 : 0 ≤ aa
       ·rw [if_pos c39] at H
        have fG : decide (0 ≤ aa) = true := decide_eq_true c39
        clear c39
        replace H := Option.bind_eq_some_iff.mp H
        obtain ⟨⟨bz, bC, bF, bH, bT⟩, dU, H⟩ := H
        replace H : (portreevelaw16_GateOthers.l0 k2 aG aI aY aN (wrap64 (aa + 1)) ah ac ad ae bz bC bF bH) = some r := H
        have ej := Aside0.mk dU
        clear dU
        have H' := Aside0.mk H
        clear H
        obtain ⟨gb, dV, el⟩ := Kd.V_slice aS.out
        subst el
        obtain ⟨bb, bc, em⟩ := Kd.V_slice aD.out
        subst em
        obtain ⟨a9, ba, en⟩ := Kd.V_slice aE.out
        subst en
        obtain ⟨aZ, a8, eo⟩ := Kd.V_slice aF.out
        subst eo
        try go_wp2
        have n0_ := Aside0.mk (Kd.V_drew aS.out)
        have n1_ := Aside0.mk (Kd.V_drew ax.out)
        have n2_ := Aside0.mk (Kd.V_drew ay.out)
        have n3_ := Aside0.mk (Kd.V_drew az.out)
        have n4_ := Aside0.mk (Kd.V_drew ak.out)
        have n5_ := Aside0.mk (Kd.V_drew al.out)
        have n6_ := Aside0.mk (Kd.V_drew am.out)
        have n7_ := Aside0.mk (Kd.V_drew aD.out)
        have n8_ := Aside0.mk (Kd.V_drew aE.out)
        have n9_ := Aside0.mk (Kd.V_drew aF.out)
        have n10_ := Aside0.mk (qD ao.out)
        have n11_ := Aside0.mk (qD aj.out)
        have n12_ := Aside0.mk (qD aH.out)
        have n13_ := Aside0.mk (pD HB.out)
        clear aS
        clear ax
        clear ay
        clear az
        clear ak
        clear al
        clear am
        clear aD
        clear aE
        clear aF
        clear ao
        clear aj
        clear aH
        clear HB
        have aS := n0_
        have ax := n1_
        have ay := n2_
        have az := n3_
        have ak := n4_
        have al := n5_
        have am := n6_
        have aD := n7_
        have aE := n8_
        have aF := n9_
        have ao := n10_
        have aj := n11_
        have aH := n12_
        have HB := n13_
        clear n0_ n1_ n2_ n3_ n4_ n5_ n6_ n7_ n8_ n9_ n10_ n11_ n12_ n13_
        have p425 : 0 ≤ (aa : Int) := of_decide_eq_true (by first | (with_reducible assumption) | assumption)
        have q425 : aa < (aN.length : Int) := of_decide_eq_true (by first | (with_reducible assumption) | assumption)
        obtain ⟨aO, e425, hx425_0, hx425_1, hx425_2, hx425_3, hx425_4, hx425_5, hx425_6, hx425_7, hx425_8⟩ := at_T41 (Kd.V_reads' aS.out).2.2 aa p425 q425
        cases e425
        replace p425 := eq_true p425
        replace q425 := eq_true q425
        refine start_ (n := 12) (S := fun w' => w'.cell? ⟨ab, 0, none⟩ = some (.int .i64 aA) ∧ w'.cell? ⟨ab, 1, none⟩ = some (.slice bb aq.length bc) ∧ w'.cell? ⟨ab, 2, none⟩ = some (.slice a9 ap.length ba) ∧ w'.cell? ⟨ab, 3, none⟩ = some (.slice aZ an.length a8) ∧ w'.cell? (aO.add ((aa).toNat * 9)) = some (.int .i64 ((rd_T41 aN aa).f0)) ∧ w'.cell? ⟨(aO.add ((aa).toNat * 9)).block, (aO.add ((aa).toNat * 9)).off + 1, none⟩ = some (.int .i64 ((rd_T41 aN aa).f1)) ∧ w'.cell? ⟨(aO.add ((aa).toNat * 9)).block, (aO.add ((aa).toNat * 9)).off + 2, none⟩ = some (.int .i64 ((rd_T41 aN aa).f2)) ∧ w'.cell? ⟨(aO.add ((aa).toNat * 9)).block, (aO.add ((aa).toNat * 9)).off + 3, none⟩ = some (.int .u32 ((rd_T41 aN aa).f3)) ∧ w'.cell? ⟨(aO.add ((aa).toNat * 9)).block, (aO.add ((aa).toNat * 9)).off + 4, none⟩ = some (.string ((rd_T41 aN aa).f4)) ∧ w'.cell? ⟨(aO.add ((aa).toNat * 9)).block, (aO.add ((aa).toNat * 9)).off + 5, none⟩ = some (.int .u64 ((rd_T41 aN aa).f5)) ∧ w'.cell? ⟨(aO.add ((aa).toNat * 9)).block, (aO.add ((aa).toNat * 9)).off + 6, none⟩ = some (.int .u64 ((rd_T41 aN aa).f6)) ∧ w'.cell? ⟨(aO.add ((aa).toNat * 9)).block, (aO.add ((aa).toNat * 9)).off + 7, none⟩ = some (.int .i64 ((rd_T41 aN aa).f7)) ∧ w'.cell? ⟨(aO.add ((aa).toNat * 9)).block, (aO.add ((aa).toNat * 9)).off + 8, none⟩ = some (.int .i64 ((rd_T41 aN aa).f8))) (ds := []) #[false, false, false, false, false, false, false, false, false, false, false, false] (by kernel_rfl) rfl rfl ⟨(blk_cell aH.out 0).trans rfl, (blk_cell aH.out 1).trans rfl, (blk_cell aH.out 2).trans rfl, (blk_cell aH.out 3).trans rfl, hx425_0, hx425_1, hx425_2, hx425_3, hx425_4, hx425_5, hx425_6, hx425_7, hx425_8⟩ (fun hHeld => ?_); refine with_tabW portreevelaw16_GateOthers.tab14 portreevelaw16_GateOthers.bits14 (fun HT_ HW_ => ?_)
        generalize wr.drew = w45 at aS ax ay az ak al am aD aE aF ao aj aH HB hx425_0 hx425_1 hx425_2 hx425_3 hx425_4 hx425_5 hx425_6 hx425_7 hx425_8 hHeld ⊢
        refine pure_ (i := 1) (N := some 69) (v := ?_) (a' := ?_) #[false, true, false, false, false, false, false, false, false, false, false, false] rfl rfl (any_of HT_.out (by kernel_rfl)) (fun _ _ _ h => h) (Or.inl ⟨by rfl, ?_⟩) ?_ ?_
        rotate_left
        ·intro w'
         go_simp
         with_reducible rfl
        rotate_left
        ·simp only [Act.put, sT, s0, s1, i64_w, i32_w]
         rfl
        refine pure_ (i := 2) (N := some 70) (v := ?_) (a' := ?_) #[false, true, true, false, false, false, false, false, false, false, false, false] rfl rfl (any_of HT_.out (by kernel_rfl)) (fun _ _ _ h => h) (Or.inl ⟨by rfl, ?_⟩) ?_ ?_
        rotate_left
        ·intro w'
         go_simp
         with_reducible rfl
        rotate_left
        ·simp only [Act.put, sT, s0, s1, i64_w, i32_w]
         rfl
        refine pure_ (i := 3) (N := some 71) (v := ?_) (a' := ?_) #[false, true, true, true, false, false, false, false, false, false, false, false] rfl rfl (any_of HT_.out (by kernel_rfl)) (fun _ _ _ h => h) (Or.inl ⟨by rfl, ?_⟩) ?_ ?_
        rotate_left
        ·intro w'
         go_simp
         with_reducible rfl
        rotate_left
        ·simp only [Act.put, sT, s0, s1, i64_w, i32_w]
         rfl
        refine take_ (i := 0) (N := some 68) (v := ?_) (a' := ?_) #[true, true, true, true, false, false, false, false, false, false, false, false] rfl rfl (take_ofW HT_.out HW_.out (by kernel_rfl)) (fun _ _ _ h => h) (Or.inl ⟨by rfl, ?_⟩) hHeld ?_ ?_
        rotate_left
        ·rintro w' ⟨s0, s1, s2, s3, s4, s5, s6, s7, s8, s9, s10, s11, s12⟩
         go_simp
         with_reducible rfl
        rotate_left
        ·simp only [Act.put, sT, s0, s1, i64_w, i32_w]
         rfl
        refine take_ (i := 4) (N := some 72) (v := ?_) (a' := ?_) #[true, true, true, true, true, false, false, false, false, false, false, false] rfl rfl (take_ofW HT_.out HW_.out (by kernel_rfl)) (fun _ _ _ h => h) (Or.inl ⟨by rfl, ?_⟩) hHeld ?_ ?_
        rotate_left
        ·rintro w' ⟨s0, s1, s2, s3, s4, s5, s6, s7, s8, s9, s10, s11, s12⟩
         go_simp
         with_reducible rfl
        rotate_left
        ·simp only [Act.put, sT, s0, s1, i64_w, i32_w]
         rfl
        refine join_ (σ := Value × Value × Value × Nat) 2 #[true, true, true, true, true, true, true, true, true, true, false, false] (fun s_ => [(73, .tuple #[.agg #[.int .i64 bz, s_.1, s_.2.1, s_.2.2.1], .int .i64 bT]), (13, .pointer (some ⟨s_.2.2.2, 0, none⟩)), (67, .tuple #[.agg #[.int .i64 bz, s_.1, s_.2.1, s_.2.2.1], .int .i64 bT]), (74, .agg #[.int .i64 bz, s_.1, s_.2.1, s_.2.2.1]), (75, .int .i64 bT)]) (fun s_ w' => (w'.cell? ⟨ab, 0, none⟩ = some (.int .i64 aA) ∧ w'.cell? ⟨ab, 1, none⟩ = some (.slice bb aq.length bc) ∧ w'.cell? ⟨ab, 2, none⟩ = some (.slice a9 ap.length ba) ∧ w'.cell? ⟨ab, 3, none⟩ = some (.slice aZ an.length a8) ∧ w'.cell? (aO.add ((aa).toNat * 9)) = some (.int .i64 ((rd_T41 aN aa).f0)) ∧ w'.cell? ⟨(aO.add ((aa).toNat * 9)).block, (aO.add ((aa).toNat * 9)).off + 1, none⟩ = some (.int .i64 ((rd_T41 aN aa).f1)) ∧ w'.cell? ⟨(aO.add ((aa).toNat * 9)).block, (aO.add ((aa).toNat * 9)).off + 2, none⟩ = some (.int .i64 ((rd_T41 aN aa).f2)) ∧ w'.cell? ⟨(aO.add ((aa).toNat * 9)).block, (aO.add ((aa).toNat * 9)).off + 3, none⟩ = some (.int .u32 ((rd_T41 aN aa).f3)) ∧ w'.cell? ⟨(aO.add ((aa).toNat * 9)).block, (aO.add ((aa).toNat * 9)).off + 4, none⟩ = some (.string ((rd_T41 aN aa).f4)) ∧ w'.cell? ⟨(aO.add ((aa).toNat * 9)).block, (aO.add ((aa).toNat * 9)).off + 5, none⟩ = some (.int .u64 ((rd_T41 aN aa).f5)) ∧ w'.cell? ⟨(aO.add ((aa).toNat * 9)).block, (aO.add ((aa).toNat * 9)).off + 6, none⟩ = some (.int .u64 ((rd_T41 aN aa).f6)) ∧ w'.cell? ⟨(aO.add ((aa).toNat * 9)).block, (aO.add ((aa).toNat * 9)).off + 7, none⟩ = some (.int .i64 ((rd_T41 aN aa).f7)) ∧ w'.cell? ⟨(aO.add ((aa).toNat * 9)).block, (aO.add ((aa).toNat * 9)).off + 8, none⟩ = some (.int .i64 ((rd_T41 aN aa).f8))) ∧ (Kd.V k76 76 w' w.heap.size (fun k_ => ((aJ k_ ∨ aK k_ ∨ aL k_) ∨ w.heap.size ≤ k_) ∧ k_ ≠ af ∧ k_ ≠ ag ∧ k_ ≠ ab ∧ k_ ≠ s_.2.2.2) s_.1 bC) ∧ (Kd.V k72 72 w' w.heap.size (fun k_ => ((aJ k_ ∨ aK k_ ∨ aL k_) ∨ w.heap.size ≤ k_) ∧ k_ ≠ af ∧ k_ ≠ ag ∧ k_ ≠ ab ∧ k_ ≠ s_.2.2.2) s_.2.1 bF) ∧ (Kd.V k64 64 w' w.heap.size (fun k_ => ((aJ k_ ∨ aK k_ ∨ aL k_) ∨ w.heap.size ≤ k_) ∧ k_ ≠ af ∧ k_ ≠ ag ∧ k_ ≠ ab ∧ k_ ≠ s_.2.2.2) s_.2.2.1 bH) ∧ (Kd.V k41 41 w' w.heap.size (fun k_ => ((aJ k_ ∨ aK k_ ∨ aL k_) ∨ w.heap.size ≤ k_) ∧ k_ ≠ af ∧ k_ ≠ ag ∧ k_ ≠ ab ∧ k_ ≠ s_.2.2.2) (.slice (some aO) aN.length dV) aN) ∧ (Kd.V k76 76 w' w.heap.size (fun k_ => ((aJ k_ ∨ aK k_ ∨ aL k_) ∨ w.heap.size ≤ k_) ∧ k_ ≠ af ∧ k_ ≠ ag ∧ k_ ≠ ab ∧ k_ ≠ s_.2.2.2) (.slice ar ac.length au) ac) ∧ (Kd.V k72 72 w' w.heap.size (fun k_ => ((aJ k_ ∨ aK k_ ∨ aL k_) ∨ w.heap.size ≤ k_) ∧ k_ ≠ af ∧ k_ ≠ ag ∧ k_ ≠ ab ∧ k_ ≠ s_.2.2.2) (.slice av ad.length aw) ad) ∧ (Kd.V k64 64 w' w.heap.size (fun k_ => ((aJ k_ ∨ aK k_ ∨ aL k_) ∨ w.heap.size ≤ k_) ∧ k_ ≠ af ∧ k_ ≠ ag ∧ k_ ≠ ab ∧ k_ ≠ s_.2.2.2) (.slice aB ae.length aC) ae) ∧ (Kd.V k76 76 w' w.heap.size (fun k_ => ((aJ k_ ∨ aK k_ ∨ aL k_) ∨ w.heap.size ≤ k_) ∧ k_ ≠ af ∧ k_ ≠ ag ∧ k_ ≠ ab ∧ k_ ≠ s_.2.2.2) (.slice ar ac.length au) ac) ∧ (Kd.V k72 72 w' w.heap.size (fun k_ => ((aJ k_ ∨ aK k_ ∨ aL k_) ∨ w.heap.size ≤ k_) ∧ k_ ≠ af ∧ k_ ≠ ag ∧ k_ ≠ ab ∧ k_ ≠ s_.2.2.2) (.slice av ad.length aw) ad) ∧ (Kd.V k64 64 w' w.heap.size (fun k_ => ((aJ k_ ∨ aK k_ ∨ aL k_) ∨ w.heap.size ≤ k_) ∧ k_ ≠ af ∧ k_ ≠ ag ∧ k_ ≠ ab ∧ k_ ≠ s_.2.2.2) (.slice aB ae.length aC) ae) ∧ (Kd.V k76 76 w' w.heap.size (fun k_ => ((aJ k_ ∨ aK k_ ∨ aL k_) ∨ w.heap.size ≤ k_) ∧ k_ ≠ af ∧ k_ ≠ ag ∧ k_ ≠ ab ∧ k_ ≠ s_.2.2.2) (.slice bb aq.length bc) aq) ∧ (Kd.V k72 72 w' w.heap.size (fun k_ => ((aJ k_ ∨ aK k_ ∨ aL k_) ∨ w.heap.size ≤ k_) ∧ k_ ≠ af ∧ k_ ≠ ag ∧ k_ ≠ ab ∧ k_ ≠ s_.2.2.2) (.slice a9 ap.length ba) ap) ∧ (Kd.V k64 64 w' w.heap.size (fun k_ => ((aJ k_ ∨ aK k_ ∨ aL k_) ∨ w.heap.size ≤ k_) ∧ k_ ≠ af ∧ k_ ≠ ag ∧ k_ ≠ ab ∧ k_ ≠ s_.2.2.2) (.slice aZ an.length a8) an) ∧ (w'.heap[af]? = some (.cells #[.int .i64 ah, .slice ar ac.length au, .slice av ad.length aw, .slice aB ae.length aC, .string aM, .string aG, .bool aR, .int .i64 aI] 52 (0, 0))) ∧ (w'.heap[ag]? = some (.cells #[.int .i64 ah, .slice ar ac.length au, .slice av ad.length aw, .slice aB ae.length aC] 26 (0, 0))) ∧ (w'.heap[ab]? = some (.cells #[.int .i64 aA, .slice bb aq.length bc, .slice a9 ap.length ba, .slice aZ an.length a8] 26 (0, 0))) ∧ (w'.heap[s_.2.2.2]? = some (.cells #[.int .i64 0, .slice none 0 0, .slice none 0 0, .slice none 0 0] 26 (0, 0))) ∧ (w.heap.size ≤ s_.2.2.2) ∧ (w.heap.size ≤ s_.2.2.2) ∧ (af ≠ s_.2.2.2) ∧ (s_.2.2.2 ≠ af) ∧ (ag ≠ s_.2.2.2) ∧ (s_.2.2.2 ≠ ag) ∧ (ab ≠ s_.2.2.2) ∧ (s_.2.2.2 ≠ ab) ∧ (Below w.heap.size w w')) ?_ ?_
        rotate_left
        ·intro hCont
         refine two_ (i := 5) (j := 9) (Ni := some 73) (Nj := some 13) #[true, true, true, true, true, true, false, false, false, false, false, false] #[true, true, true, true, true, false, false, false, false, true, false, false] rfl rfl rfl rfl (two_of HT_.out (by kernel_rfl)) (by decide) (by decide) (fun K hK => ?_) (fun K hK => ?_)
         ·skip
          refine goes_ Try.func14 (by kernel_rfl) rfl #[.agg #[.int .i64 aA, .slice bb aq.length bc, .slice a9 ap.length ba, .slice aZ an.length a8], .agg #[.int .i64 ((rd_T41 aN aa).f0), .int .i64 ((rd_T41 aN aa).f1), .int .i64 ((rd_T41 aN aa).f2), .int .u32 ((rd_T41 aN aa).f3), .string ((rd_T41 aN aa).f4), .int .u64 ((rd_T41 aN aa).f5), .int .u64 ((rd_T41 aN aa).f6), .int .i64 ((rd_T41 aN aa).f7), .int .i64 ((rd_T41 aN aa).f8)]] (by rfl) rfl rfl (by (try simp only [List.map_toArray, List.map_cons, List.map_nil]); first | done | rfl | (simp only [List.length_drop, List.length_take]; rfl)) ?_
          with_reducible refine (portreeveref04_Apply.calls k2 aA (fun k_ => (((aJ k_ ∨ aK k_ ∨ aL k_) ∨ w.heap.size ≤ k_) ∧ (k_ ≠ af ∧ (k_ ≠ ag ∧ k_ ≠ ab)))) _ _ aq (fun k_ => (((aJ k_ ∨ aK k_ ∨ aL k_) ∨ w.heap.size ≤ k_) ∧ (k_ ≠ af ∧ (k_ ≠ ag ∧ k_ ≠ ab)))) _ _ ap (fun k_ => (((aJ k_ ∨ aK k_ ∨ aL k_) ∨ w.heap.size ≤ k_) ∧ (k_ ≠ af ∧ (k_ ≠ ag ∧ k_ ≠ ab)))) _ _ an ((rd_T41 aN aa).f0) ((rd_T41 aN aa).f1) ((rd_T41 aN aa).f2) ((rd_T41 aN aa).f3) ((rd_T41 aN aa).f4) ((rd_T41 aN aa).f5) ((rd_T41 aN aa).f6) ((rd_T41 aN aa).f7) ((rd_T41 aN aa).f8) bz bC bF bH bT _ ?side1 ?side2 ?side3 ej.out).mono ?_
          (case side1 => exact aD.out)
          (case side2 => exact aE.out)
          (case side3 => exact aF.out)
          rintro e w46 ⟨v428, v431, v434, rfl, ho0, ho1, ho2, hb⟩
          have HS4_ := (hb.cell (World.block_lt_of_cell? _ _ (hHeld.2.2.2.2.1))).trans (hHeld.2.2.2.2.1)
          have HS5_ := (hb.cell (World.block_lt_of_cell? _ _ (hHeld.2.2.2.2.2.1))).trans (hHeld.2.2.2.2.2.1)
          have HS6_ := (hb.cell (World.block_lt_of_cell? _ _ (hHeld.2.2.2.2.2.2.1))).trans (hHeld.2.2.2.2.2.2.1)
          have HS7_ := (hb.cell (World.block_lt_of_cell? _ _ (hHeld.2.2.2.2.2.2.2.1))).trans (hHeld.2.2.2.2.2.2.2.1)
          have HS8_ := (hb.cell (World.block_lt_of_cell? _ _ (hHeld.2.2.2.2.2.2.2.2.1))).trans (hHeld.2.2.2.2.2.2.2.2.1)
          have HS9_ := (hb.cell (World.block_lt_of_cell? _ _ (hHeld.2.2.2.2.2.2.2.2.2.1))).trans (hHeld.2.2.2.2.2.2.2.2.2.1)
          have HS10_ := (hb.cell (World.block_lt_of_cell? _ _ (hHeld.2.2.2.2.2.2.2.2.2.2.1))).trans (hHeld.2.2.2.2.2.2.2.2.2.2.1)
          have HS11_ := (hb.cell (World.block_lt_of_cell? _ _ (hHeld.2.2.2.2.2.2.2.2.2.2.2.1))).trans (hHeld.2.2.2.2.2.2.2.2.2.2.2.1)
          have HS12_ := (hb.cell (World.block_lt_of_cell? _ _ (hHeld.2.2.2.2.2.2.2.2.2.2.2.2))).trans (hHeld.2.2.2.2.2.2.2.2.2.2.2.2)
          refine ⟨_, rfl, ?_⟩
          have n0_ := Aside0.mk (Kd.V_below (zV aS.out) hb)
          have n1_ := Aside0.mk (Kd.V_below (zV ax.out) hb)
          have n2_ := Aside0.mk (Kd.V_below (zV ay.out) hb)
          have n3_ := Aside0.mk (Kd.V_below (zV az.out) hb)
          have n4_ := Aside0.mk (Kd.V_below (zV ak.out) hb)
          have n5_ := Aside0.mk (Kd.V_below (zV al.out) hb)
          have n6_ := Aside0.mk (Kd.V_below (zV am.out) hb)
          have n7_ := Aside0.mk (Kd.V_below (zV aD.out) hb)
          have n8_ := Aside0.mk (Kd.V_below (zV aE.out) hb)
          have n9_ := Aside0.mk (Kd.V_below (zV aF.out) hb)
          have n10_ := Aside0.mk (Kd.V_lower (Kd.V_mono (ok' := fun k_ => ((aJ k_ ∨ aK k_ ∨ aL k_) ∨ w.heap.size ≤ k_) ∧ k_ ≠ af ∧ k_ ≠ ag ∧ k_ ≠ ab) ho0 (fun k_ hk_ => ⟨Or.elim hk_ (fun hs_ => Or.elim hs_ (fun hs_ => hs_.1) (fun hs_ => Or.elim hs_ (fun hs_ => hs_.1) (fun hs_ => hs_.1))) (fun hn_ => (.inr (Nat.le_trans (below_size (by repeat (first | (with_reducible first | exact HB.out | apply pA | apply pN | apply pD | refine pS ?_ aP.out | refine pS ?_ aQ.out | refine pS ?_ aW.out) | exact HB.out))) hn_))), Or.elim hk_ (fun hs_ => Or.elim hs_ (fun hs_ => hs_.2.1) (fun hs_ => Or.elim hs_ (fun hs_ => hs_.2.1) (fun hs_ => hs_.2.1))) (fun hn_ => (Kd.freshB (g := af) (o := .cells #[.int .i64 ah, .slice ar ac.length au, .slice av ad.length aw, .slice aB ae.length aC, .string aM, .string aG, .bool aR, .int .i64 aI] 52 (0, 0)) (zB ao.out) k_ hn_)), Or.elim hk_ (fun hs_ => Or.elim hs_ (fun hs_ => hs_.2.2.1) (fun hs_ => Or.elim hs_ (fun hs_ => hs_.2.2.1) (fun hs_ => hs_.2.2.1))) (fun hn_ => (Kd.freshB (g := ag) (o := .cells #[.int .i64 ah, .slice ar ac.length au, .slice av ad.length aw, .slice aB ae.length aC] 26 (0, 0)) (zB aj.out) k_ hn_)), Or.elim hk_ (fun hs_ => Or.elim hs_ (fun hs_ => hs_.2.2.2) (fun hs_ => Or.elim hs_ (fun hs_ => hs_.2.2.2) (fun hs_ => hs_.2.2.2))) (fun hn_ => (Kd.freshB (g := ab) (o := .cells #[.int .i64 aA, .slice bb aq.length bc, .slice a9 ap.length ba, .slice aZ an.length a8] 26 (0, 0)) (zB aH.out) k_ hn_))⟩)) (below_size (by repeat (first | (with_reducible first | exact HB.out | apply pA | apply pN | apply pD | refine pS ?_ aP.out | refine pS ?_ aQ.out | refine pS ?_ aW.out) | exact HB.out))))
          have n11_ := Aside0.mk (Kd.V_lower (Kd.V_mono (ok' := fun k_ => ((aJ k_ ∨ aK k_ ∨ aL k_) ∨ w.heap.size ≤ k_) ∧ k_ ≠ af ∧ k_ ≠ ag ∧ k_ ≠ ab) ho1 (fun k_ hk_ => ⟨Or.elim hk_ (fun hs_ => Or.elim hs_ (fun hs_ => hs_.1) (fun hs_ => Or.elim hs_ (fun hs_ => hs_.1) (fun hs_ => hs_.1))) (fun hn_ => (.inr (Nat.le_trans (below_size (by repeat (first | (with_reducible first | exact HB.out | apply pA | apply pN | apply pD | refine pS ?_ aP.out | refine pS ?_ aQ.out | refine pS ?_ aW.out) | exact HB.out))) hn_))), Or.elim hk_ (fun hs_ => Or.elim hs_ (fun hs_ => hs_.2.1) (fun hs_ => Or.elim hs_ (fun hs_ => hs_.2.1) (fun hs_ => hs_.2.1))) (fun hn_ => (Kd.freshB (g := af) (o := .cells #[.int .i64 ah, .slice ar ac.length au, .slice av ad.length aw, .slice aB ae.length aC, .string aM, .string aG, .bool aR, .int .i64 aI] 52 (0, 0)) (zB ao.out) k_ hn_)), Or.elim hk_ (fun hs_ => Or.elim hs_ (fun hs_ => hs_.2.2.1) (fun hs_ => Or.elim hs_ (fun hs_ => hs_.2.2.1) (fun hs_ => hs_.2.2.1))) (fun hn_ => (Kd.freshB (g := ag) (o := .cells #[.int .i64 ah, .slice ar ac.length au, .slice av ad.length aw, .slice aB ae.length aC] 26 (0, 0)) (zB aj.out) k_ hn_)), Or.elim hk_ (fun hs_ => Or.elim hs_ (fun hs_ => hs_.2.2.2) (fun hs_ => Or.elim hs_ (fun hs_ => hs_.2.2.2) (fun hs_ => hs_.2.2.2))) (fun hn_ => (Kd.freshB (g := ab) (o := .cells #[.int .i64 aA, .slice bb aq.length bc, .slice a9 ap.length ba, .slice aZ an.length a8] 26 (0, 0)) (zB aH.out) k_ hn_))⟩)) (below_size (by repeat (first | (with_reducible first | exact HB.out | apply pA | apply pN | apply pD | refine pS ?_ aP.out | refine pS ?_ aQ.out | refine pS ?_ aW.out) | exact HB.out))))
          have n12_ := Aside0.mk (Kd.V_lower (Kd.V_mono (ok' := fun k_ => ((aJ k_ ∨ aK k_ ∨ aL k_) ∨ w.heap.size ≤ k_) ∧ k_ ≠ af ∧ k_ ≠ ag ∧ k_ ≠ ab) ho2 (fun k_ hk_ => ⟨Or.elim hk_ (fun hs_ => Or.elim hs_ (fun hs_ => hs_.1) (fun hs_ => Or.elim hs_ (fun hs_ => hs_.1) (fun hs_ => hs_.1))) (fun hn_ => (.inr (Nat.le_trans (below_size (by repeat (first | (with_reducible first | exact HB.out | apply pA | apply pN | apply pD | refine pS ?_ aP.out | refine pS ?_ aQ.out | refine pS ?_ aW.out) | exact HB.out))) hn_))), Or.elim hk_ (fun hs_ => Or.elim hs_ (fun hs_ => hs_.2.1) (fun hs_ => Or.elim hs_ (fun hs_ => hs_.2.1) (fun hs_ => hs_.2.1))) (fun hn_ => (Kd.freshB (g := af) (o := .cells #[.int .i64 ah, .slice ar ac.length au, .slice av ad.length aw, .slice aB ae.length aC, .string aM, .string aG, .bool aR, .int .i64 aI] 52 (0, 0)) (zB ao.out) k_ hn_)), Or.elim hk_ (fun hs_ => Or.elim hs_ (fun hs_ => hs_.2.2.1) (fun hs_ => Or.elim hs_ (fun hs_ => hs_.2.2.1) (fun hs_ => hs_.2.2.1))) (fun hn_ => (Kd.freshB (g := ag) (o := .cells #[.int .i64 ah, .slice ar ac.length au, .slice av ad.length aw, .slice aB ae.length aC] 26 (0, 0)) (zB aj.out) k_ hn_)), Or.elim hk_ (fun hs_ => Or.elim hs_ (fun hs_ => hs_.2.2.2) (fun hs_ => Or.elim hs_ (fun hs_ => hs_.2.2.2) (fun hs_ => hs_.2.2.2))) (fun hn_ => (Kd.freshB (g := ab) (o := .cells #[.int .i64 aA, .slice bb aq.length bc, .slice a9 ap.length ba, .slice aZ an.length a8] 26 (0, 0)) (zB aH.out) k_ hn_))⟩)) (below_size (by repeat (first | (with_reducible first | exact HB.out | apply pA | apply pN | apply pD | refine pS ?_ aP.out | refine pS ?_ aQ.out | refine pS ?_ aW.out) | exact HB.out))))
          have n13_ := Aside0.mk (blk_below (g := af) (o := .cells #[.int .i64 ah, .slice ar ac.length au, .slice av ad.length aw, .slice aB ae.length aC, .string aM, .string aG, .bool aR, .int .i64 aI] 52 (0, 0)) (zB ao.out) hb)
          have n14_ := Aside0.mk (blk_below (g := ag) (o := .cells #[.int .i64 ah, .slice ar ac.length au, .slice av ad.length aw, .slice aB ae.length aC] 26 (0, 0)) (zB aj.out) hb)
          have n15_ := Aside0.mk (blk_below (g := ab) (o := .cells #[.int .i64 aA, .slice bb aq.length bc, .slice a9 ap.length ba, .slice aZ an.length a8] 26 (0, 0)) (zB aH.out) hb)
          have n16_ := Aside0.mk (below_step (by repeat (first | (with_reducible first | exact HB.out | apply pA | apply pN | apply pD | refine pS ?_ aP.out | refine pS ?_ aQ.out | refine pS ?_ aW.out) | exact HB.out)) hb)
          clear aS
          clear ax
          clear ay
          clear az
          clear ak
          clear al
          clear am
          clear aD
          clear aE
          clear aF
          clear ao
          clear aj
          clear aH
          clear HB
          have aS := n0_
          have ax := n1_
          have ay := n2_
          have az := n3_
          have ak := n4_
          have al := n5_
          have am := n6_
          have aD := n7_
          have aE := n8_
          have aF := n9_
          have bq := n10_
          have br := n11_
          have bs := n12_
          have ao := n13_
          have aj := n14_
          have aH := n15_
          have HB := n16_
          clear n0_ n1_ n2_ n3_ n4_ n5_ n6_ n7_ n8_ n9_ n10_ n11_ n12_ n13_ n14_ n15_ n16_
          (try clear hb)
          (try clear hb2)
          (try clear hk)
          (try clear hi)
          (try clear ho0)
          (try clear ho1)
          (try clear ho2)
          refine hK.out _ _ ⟨(blk_cell aH.out 0).trans rfl, (blk_cell aH.out 1).trans rfl, (blk_cell aH.out 2).trans rfl, (blk_cell aH.out 3).trans rfl, HS4_, HS5_, HS6_, HS7_, HS8_, HS9_, HS10_, HS11_, HS12_⟩ (fun hHeld => ?_)
          clear hK K
          refine norm_ (a' := ?_) ?_ ?_
          rotate_left
          ·show Act.put _ (some 73) _ = _
           simp only [Act.put, sT, s0, s1, i64_w, i32_w]
           rfl
          refine pure_ (i := 6) (N := some 67) (v := ?_) (a' := ?_) #[true, true, true, true, true, true, true, false, false, false, false, false] rfl rfl (any_of HT_.out (by kernel_rfl)) (fun _ _ _ h => h) (Or.inl ⟨by rfl, ?_⟩) ?_ ?_
          rotate_left
          ·intro w'
           go_simp
           with_reducible rfl
          rotate_left
          ·simp only [Act.put, sT, s0, s1, i64_w, i32_w]
           rfl
          refine pure_ (i := 7) (N := some 74) (v := ?_) (a' := ?_) #[true, true, true, true, true, true, true, true, false, false, false, false] rfl rfl (any_of HT_.out (by kernel_rfl)) (fun _ _ _ h => h) (Or.inl ⟨by rfl, ?_⟩) ?_ ?_
          rotate_left
          ·intro w'
           go_simp
           with_reducible rfl
          rotate_left
          ·simp only [Act.put, sT, s0, s1, i64_w, i32_w]
           rfl
          refine pure_ (i := 8) (N := some 75) (v := ?_) (a' := ?_) #[true, true, true, true, true, true, true, true, true, false, false, false] rfl rfl (any_of HT_.out (by kernel_rfl)) (fun _ _ _ h => h) (Or.inl ⟨by rfl, ?_⟩) ?_ ?_
          rotate_left
          ·intro w'
           go_simp
           with_reducible rfl
          rotate_left
          ·simp only [Act.put, sT, s0, s1, i64_w, i32_w]
           rfl
          refine one_ (i := 9) (N := some 13) #[true, true, true, true, true, true, true, true, true, true, false, false] rfl rfl (one_of HT_.out (by kernel_rfl)) (by decide) (fun K hK => ?_)
          refine box_step ?hg (N := 13) ?hd (cs := #[.int .i64 0, .slice none 0 0, .slice none 0 0, .slice none 0 0]) (t := 26) ?hr ?_; (case hd => rfl); (case hg => rfl); (case hr => first | (go_simp; done) | (go_simp; rfl))
          intro ai hg w47 hbox hb
          have HS4_ := (hb.cell (World.block_lt_of_cell? _ _ (hHeld.2.2.2.2.1))).trans (hHeld.2.2.2.2.1)
          have HS5_ := (hb.cell (World.block_lt_of_cell? _ _ (hHeld.2.2.2.2.2.1))).trans (hHeld.2.2.2.2.2.1)
          have HS6_ := (hb.cell (World.block_lt_of_cell? _ _ (hHeld.2.2.2.2.2.2.1))).trans (hHeld.2.2.2.2.2.2.1)
          have HS7_ := (hb.cell (World.block_lt_of_cell? _ _ (hHeld.2.2.2.2.2.2.2.1))).trans (hHeld.2.2.2.2.2.2.2.1)
          have HS8_ := (hb.cell (World.block_lt_of_cell? _ _ (hHeld.2.2.2.2.2.2.2.2.1))).trans (hHeld.2.2.2.2.2.2.2.2.1)
          have HS9_ := (hb.cell (World.block_lt_of_cell? _ _ (hHeld.2.2.2.2.2.2.2.2.2.1))).trans (hHeld.2.2.2.2.2.2.2.2.2.1)
          have HS10_ := (hb.cell (World.block_lt_of_cell? _ _ (hHeld.2.2.2.2.2.2.2.2.2.2.1))).trans (hHeld.2.2.2.2.2.2.2.2.2.2.1)
          have HS11_ := (hb.cell (World.block_lt_of_cell? _ _ (hHeld.2.2.2.2.2.2.2.2.2.2.2.1))).trans (hHeld.2.2.2.2.2.2.2.2.2.2.2.1)
          have HS12_ := (hb.cell (World.block_lt_of_cell? _ _ (hHeld.2.2.2.2.2.2.2.2.2.2.2.2))).trans (hHeld.2.2.2.2.2.2.2.2.2.2.2.2)
          have n0_ := Aside0.mk (Kd.V_below (Kd.V_elderB (zV aS.out) ai (Nat.le_of_eq hg.symm)) hb)
          have n1_ := Aside0.mk (Kd.V_below (Kd.V_elderB (zV ax.out) ai (Nat.le_of_eq hg.symm)) hb)
          have n2_ := Aside0.mk (Kd.V_below (Kd.V_elderB (zV ay.out) ai (Nat.le_of_eq hg.symm)) hb)
          have n3_ := Aside0.mk (Kd.V_below (Kd.V_elderB (zV az.out) ai (Nat.le_of_eq hg.symm)) hb)
          have n4_ := Aside0.mk (Kd.V_below (Kd.V_elderB (zV ak.out) ai (Nat.le_of_eq hg.symm)) hb)
          have n5_ := Aside0.mk (Kd.V_below (Kd.V_elderB (zV al.out) ai (Nat.le_of_eq hg.symm)) hb)
          have n6_ := Aside0.mk (Kd.V_below (Kd.V_elderB (zV am.out) ai (Nat.le_of_eq hg.symm)) hb)
          have n7_ := Aside0.mk (Kd.V_below (Kd.V_elderB (zV aD.out) ai (Nat.le_of_eq hg.symm)) hb)
          have n8_ := Aside0.mk (Kd.V_below (Kd.V_elderB (zV aE.out) ai (Nat.le_of_eq hg.symm)) hb)
          have n9_ := Aside0.mk (Kd.V_below (Kd.V_elderB (zV aF.out) ai (Nat.le_of_eq hg.symm)) hb)
          have n10_ := Aside0.mk (Kd.V_below (Kd.V_elderB (zV bq.out) ai (Nat.le_of_eq hg.symm)) hb)
          have n11_ := Aside0.mk (Kd.V_below (Kd.V_elderB (zV br.out) ai (Nat.le_of_eq hg.symm)) hb)
          have n12_ := Aside0.mk (Kd.V_below (Kd.V_elderB (zV bs.out) ai (Nat.le_of_eq hg.symm)) hb)
          have n13_ := Aside0.mk (blk_below (g := af) (o := .cells #[.int .i64 ah, .slice ar ac.length au, .slice av ad.length aw, .slice aB ae.length aC, .string aM, .string aG, .bool aR, .int .i64 aI] 52 (0, 0)) (zB ao.out) hb)
          have n14_ := Aside0.mk (blk_below (g := ag) (o := .cells #[.int .i64 ah, .slice ar ac.length au, .slice av ad.length aw, .slice aB ae.length aC] 26 (0, 0)) (zB aj.out) hb)
          have n15_ := Aside0.mk (blk_below (g := ab) (o := .cells #[.int .i64 aA, .slice bb aq.length bc, .slice a9 ap.length ba, .slice aZ an.length a8] 26 (0, 0)) (zB aH.out) hb)
          have n16_ := Aside0.mk (below_step (by repeat (first | (with_reducible first | exact HB.out | apply pA | apply pN | apply pD | refine pS ?_ aP.out | refine pS ?_ aQ.out | refine pS ?_ aW.out) | exact HB.out)) hb)
          have n17_ := Aside0.mk (hbox)
          have n18_ := Aside0.mk ((by rw [hg]; exact (below_size (by repeat (first | (with_reducible first | exact HB.out | apply pA | apply pN | apply pD | refine pS ?_ aP.out | refine pS ?_ aQ.out | refine pS ?_ aW.out) | exact HB.out))) : w.heap.size ≤ ai))
          have n19_ := Aside0.mk ((by rw [hg]; exact (below_size (by repeat (first | (with_reducible first | exact HB.out | apply pA | apply pN | apply pD | refine pS ?_ aP.out | refine pS ?_ aQ.out | refine pS ?_ aW.out) | exact HB.out))) : w.heap.size ≤ ai))
          have n20_ := Aside0.mk ((by rw [hg]; exact Nat.ne_of_lt (blk_lt (g := af) (o := .cells #[.int .i64 ah, .slice ar ac.length au, .slice av ad.length aw, .slice aB ae.length aC, .string aM, .string aG, .bool aR, .int .i64 aI] 52 (0, 0)) (zB ao.out)) : af ≠ ai))
          have n21_ := Aside0.mk ((by rw [hg]; exact Nat.ne_of_gt (blk_lt (g := af) (o := .cells #[.int .i64 ah, .slice ar ac.length au, .slice av ad.length aw, .slice aB ae.length aC, .string aM, .string aG, .bool aR, .int .i64 aI] 52 (0, 0)) (zB ao.out)) : ai ≠ af))
          have n22_ := Aside0.mk ((by rw [hg]; exact Nat.ne_of_lt (blk_lt (g := ag) (o := .cells #[.int .i64 ah, .slice ar ac.length au, .slice av ad.length aw, .slice aB ae.length aC] 26 (0, 0)) (zB aj.out)) : ag ≠ ai))
          have n23_ := Aside0.mk ((by rw [hg]; exact Nat.ne_of_gt (blk_lt (g := ag) (o := .cells #[.int .i64 ah, .slice ar ac.length au, .slice av ad.length aw, .slice aB ae.length aC] 26 (0, 0)) (zB aj.out)) : ai ≠ ag))
          have n24_ := Aside0.mk ((by rw [hg]; exact Nat.ne_of_lt (blk_lt (g := ab) (o := .cells #[.int .i64 aA, .slice bb aq.length bc, .slice a9 ap.length ba, .slice aZ an.length a8] 26 (0, 0)) (zB aH.out)) : ab ≠ ai))
          have n25_ := Aside0.mk ((by rw [hg]; exact Nat.ne_of_gt (blk_lt (g := ab) (o := .cells #[.int .i64 aA, .slice bb aq.length bc, .slice a9 ap.length ba, .slice aZ an.length a8] 26 (0, 0)) (zB aH.out)) : ai ≠ ab))
          clear aS
          clear ax
          clear ay
          clear az
          clear ak
          clear al
          clear am
          clear aD
          clear aE
          clear aF
          clear bq
          clear br
          clear bs
          clear ao
          clear aj
          clear aH
          clear HB
          have aS := n0_
          have ax := n1_
          have ay := n2_
          have az := n3_
          have ak := n4_
          have al := n5_
          have am := n6_
          have aD := n7_
          have aE := n8_
          have aF := n9_
          have bq := n10_
          have br := n11_
          have bs := n12_
          have ao := n13_
          have aj := n14_
          have aH := n15_
          have HB := n16_
          have bd := n17_
          have bS := n18_
          have bj := n19_
          have be := n20_
          have bg := n21_
          have bf := n22_
          have bh := n23_
          have aX := n24_
          have bi := n25_
          clear n0_ n1_ n2_ n3_ n4_ n5_ n6_ n7_ n8_ n9_ n10_ n11_ n12_ n13_ n14_ n15_ n16_ n17_ n18_ n19_ n20_ n21_ n22_ n23_ n24_ n25_
          clear hb hbox hg
          refine hK.out _ _ ⟨(blk_cell aH.out 0).trans rfl, (blk_cell aH.out 1).trans rfl, (blk_cell aH.out 2).trans rfl, (blk_cell aH.out 3).trans rfl, HS4_, HS5_, HS6_, HS7_, HS8_, HS9_, HS10_, HS11_, HS12_⟩ (fun hHeld => ?_)
          clear hK K
          refine norm_ (a' := ?_) ?_ ?_
          rotate_left
          ·show Act.put _ (some 13) _ = _
           simp only [Act.put, sT, s0, s1, i64_w, i32_w]
           rfl
          exact norm_ (by simp only [putAll, Act.put, sT, s0, s1]) (hCont (v428, v431, v434, ai) _ ⟨hHeld, (zV (Kd.V_mono bq.out (fun _ hk => ⟨hk.1.1, ⟨hk.1.2.1, ⟨hk.1.2.2.1, ⟨hk.1.2.2.2, hk.2⟩⟩⟩⟩))), (zV (Kd.V_mono br.out (fun _ hk => ⟨hk.1.1, ⟨hk.1.2.1, ⟨hk.1.2.2.1, ⟨hk.1.2.2.2, hk.2⟩⟩⟩⟩))), (zV (Kd.V_mono bs.out (fun _ hk => ⟨hk.1.1, ⟨hk.1.2.1, ⟨hk.1.2.2.1, ⟨hk.1.2.2.2, hk.2⟩⟩⟩⟩))), (zV (Kd.V_mono aS.out (fun _ hk => ⟨hk.1.1, ⟨hk.1.2.1, ⟨hk.1.2.2.1, ⟨hk.1.2.2.2, hk.2⟩⟩⟩⟩))), (zV (Kd.V_mono ax.out (fun _ hk => ⟨hk.1.1, ⟨hk.1.2.1, ⟨hk.1.2.2.1, ⟨hk.1.2.2.2, hk.2⟩⟩⟩⟩))), (zV (Kd.V_mono ay.out (fun _ hk => ⟨hk.1.1, ⟨hk.1.2.1, ⟨hk.1.2.2.1, ⟨hk.1.2.2.2, hk.2⟩⟩⟩⟩))), (zV (Kd.V_mono az.out (fun _ hk => ⟨hk.1.1, ⟨hk.1.2.1, ⟨hk.1.2.2.1, ⟨hk.1.2.2.2, hk.2⟩⟩⟩⟩))), (zV (Kd.V_mono ak.out (fun _ hk => ⟨hk.1.1, ⟨hk.1.2.1, ⟨hk.1.2.2.1, ⟨hk.1.2.2.2, hk.2⟩⟩⟩⟩))), (zV (Kd.V_mono al.out (fun _ hk => ⟨hk.1.1, ⟨hk.1.2.1, ⟨hk.1.2.2.1, ⟨hk.1.2.2.2, hk.2⟩⟩⟩⟩))), (zV (Kd.V_mono am.out (fun _ hk => ⟨hk.1.1, ⟨hk.1.2.1, ⟨hk.1.2.2.1, ⟨hk.1.2.2.2, hk.2⟩⟩⟩⟩))), (zV (Kd.V_mono aD.out (fun _ hk => ⟨hk.1.1, ⟨hk.1.2.1, ⟨hk.1.2.2.1, ⟨hk.1.2.2.2, hk.2⟩⟩⟩⟩))), (zV (Kd.V_mono aE.out (fun _ hk => ⟨hk.1.1, ⟨hk.1.2.1, ⟨hk.1.2.2.1, ⟨hk.1.2.2.2, hk.2⟩⟩⟩⟩))), (zV (Kd.V_mono aF.out (fun _ hk => ⟨hk.1.1, ⟨hk.1.2.1, ⟨hk.1.2.2.1, ⟨hk.1.2.2.2, hk.2⟩⟩⟩⟩))), (zB ao.out), (zB aj.out), (zB aH.out), (zB bd.out), bS.out, bj.out, be.out, bg.out, bf.out, bh.out, aX.out, bi.out, (by repeat (first | (with_reducible first | exact HB.out | apply pA | apply pN | apply pD | refine pS ?_ aP.out | refine pS ?_ aQ.out | refine pS ?_ aW.out | refine pS ?_ bj.out) | exact HB.out))⟩)
         ·skip
          refine box_step ?hg (N := 13) ?hd (cs := #[.int .i64 0, .slice none 0 0, .slice none 0 0, .slice none 0 0]) (t := 26) ?hr ?_; (case hd => rfl); (case hg => rfl); (case hr => first | (go_simp; done) | (go_simp; rfl))
          intro ai hg w46 hbox hb
          have HS4_ := (hb.cell (World.block_lt_of_cell? _ _ (hHeld.2.2.2.2.1))).trans (hHeld.2.2.2.2.1)
          have HS5_ := (hb.cell (World.block_lt_of_cell? _ _ (hHeld.2.2.2.2.2.1))).trans (hHeld.2.2.2.2.2.1)
          have HS6_ := (hb.cell (World.block_lt_of_cell? _ _ (hHeld.2.2.2.2.2.2.1))).trans (hHeld.2.2.2.2.2.2.1)
          have HS7_ := (hb.cell (World.block_lt_of_cell? _ _ (hHeld.2.2.2.2.2.2.2.1))).trans (hHeld.2.2.2.2.2.2.2.1)
          have HS8_ := (hb.cell (World.block_lt_of_cell? _ _ (hHeld.2.2.2.2.2.2.2.2.1))).trans (hHeld.2.2.2.2.2.2.2.2.1)
          have HS9_ := (hb.cell (World.block_lt_of_cell? _ _ (hHeld.2.2.2.2.2.2.2.2.2.1))).trans (hHeld.2.2.2.2.2.2.2.2.2.1)
          have HS10_ := (hb.cell (World.block_lt_of_cell? _ _ (hHeld.2.2.2.2.2.2.2.2.2.2.1))).trans (hHeld.2.2.2.2.2.2.2.2.2.2.1)
          have HS11_ := (hb.cell (World.block_lt_of_cell? _ _ (hHeld.2.2.2.2.2.2.2.2.2.2.2.1))).trans (hHeld.2.2.2.2.2.2.2.2.2.2.2.1)
          have HS12_ := (hb.cell (World.block_lt_of_cell? _ _ (hHeld.2.2.2.2.2.2.2.2.2.2.2.2))).trans (hHeld.2.2.2.2.2.2.2.2.2.2.2.2)
          have n0_ := Aside0.mk (Kd.V_below (Kd.V_elderB (zV aS.out) ai (Nat.le_of_eq hg.symm)) hb)
          have n1_ := Aside0.mk (Kd.V_below (Kd.V_elderB (zV ax.out) ai (Nat.le_of_eq hg.symm)) hb)
          have n2_ := Aside0.mk (Kd.V_below (Kd.V_elderB (zV ay.out) ai (Nat.le_of_eq hg.symm)) hb)
          have n3_ := Aside0.mk (Kd.V_below (Kd.V_elderB (zV az.out) ai (Nat.le_of_eq hg.symm)) hb)
          have n4_ := Aside0.mk (Kd.V_below (Kd.V_elderB (zV ak.out) ai (Nat.le_of_eq hg.symm)) hb)
          have n5_ := Aside0.mk (Kd.V_below (Kd.V_elderB (zV al.out) ai (Nat.le_of_eq hg.symm)) hb)
          have n6_ := Aside0.mk (Kd.V_below (Kd.V_elderB (zV am.out) ai (Nat.le_of_eq hg.symm)) hb)
          have n7_ := Aside0.mk (Kd.V_below (Kd.V_elderB (zV aD.out) ai (Nat.le_of_eq hg.symm)) hb)
          have n8_ := Aside0.mk (Kd.V_below (Kd.V_elderB (zV aE.out) ai (Nat.le_of_eq hg.symm)) hb)
          have n9_ := Aside0.mk (Kd.V_below (Kd.V_elderB (zV aF.out) ai (Nat.le_of_eq hg.symm)) hb)
          have n10_ := Aside0.mk (blk_below (g := af) (o := .cells #[.int .i64 ah, .slice ar ac.length au, .slice av ad.length aw, .slice aB ae.length aC, .string aM, .string aG, .bool aR, .int .i64 aI] 52 (0, 0)) (zB ao.out) hb)
          have n11_ := Aside0.mk (blk_below (g := ag) (o := .cells #[.int .i64 ah, .slice ar ac.length au, .slice av ad.length aw, .slice aB ae.length aC] 26 (0, 0)) (zB aj.out) hb)
          have n12_ := Aside0.mk (blk_below (g := ab) (o := .cells #[.int .i64 aA, .slice bb aq.length bc, .slice a9 ap.length ba, .slice aZ an.length a8] 26 (0, 0)) (zB aH.out) hb)
          have n13_ := Aside0.mk (below_step (by repeat (first | (with_reducible first | exact HB.out | apply pA | apply pN | apply pD | refine pS ?_ aP.out | refine pS ?_ aQ.out | refine pS ?_ aW.out) | exact HB.out)) hb)
          have n14_ := Aside0.mk (hbox)
          have n15_ := Aside0.mk ((by rw [hg]; exact (below_size (by repeat (first | (with_reducible first | exact HB.out | apply pA | apply pN | apply pD | refine pS ?_ aP.out | refine pS ?_ aQ.out | refine pS ?_ aW.out) | exact HB.out))) : w.heap.size ≤ ai))
          have n16_ := Aside0.mk ((by rw [hg]; exact (below_size (by repeat (first | (with_reducible first | exact HB.out | apply pA | apply pN | apply pD | refine pS ?_ aP.out | refine pS ?_ aQ.out | refine pS ?_ aW.out) | exact HB.out))) : w.heap.size ≤ ai))
          have n17_ := Aside0.mk ((by rw [hg]; exact Nat.ne_of_lt (blk_lt (g := af) (o := .cells #[.int .i64 ah, .slice ar ac.length au, .slice av ad.length aw, .slice aB ae.length aC, .string aM, .string aG, .bool aR, .int .i64 aI] 52 (0, 0)) (zB ao.out)) : af ≠ ai))
          have n18_ := Aside0.mk ((by rw [hg]; exact Nat.ne_of_gt (blk_lt (g := af) (o := .cells #[.int .i64 ah, .slice ar ac.length au, .slice av ad.length aw, .slice aB ae.length aC, .string aM, .string aG, .bool aR, .int .i64 aI] 52 (0, 0)) (zB ao.out)) : ai ≠ af))
          have n19_ := Aside0.mk ((by rw [hg]; exact Nat.ne_of_lt (blk_lt (g := ag) (o := .cells #[.int .i64 ah, .slice ar ac.length au, .slice av ad.length aw, .slice aB ae.length aC] 26 (0, 0)) (zB aj.out)) : ag ≠ ai))
          have n20_ := Aside0.mk ((by rw [hg]; exact Nat.ne_of_gt (blk_lt (g := ag) (o := .cells #[.int .i64 ah, .slice ar ac.length au, .slice av ad.length aw, .slice aB ae.length aC] 26 (0, 0)) (zB aj.out)) : ai ≠ ag))
          have n21_ := Aside0.mk ((by rw [hg]; exact Nat.ne_of_lt (blk_lt (g := ab) (o := .cells #[.int .i64 aA, .slice bb aq.length bc, .slice a9 ap.length ba, .slice aZ an.length a8] 26 (0, 0)) (zB aH.out)) : ab ≠ ai))
          have n22_ := Aside0.mk ((by rw [hg]; exact Nat.ne_of_gt (blk_lt (g := ab) (o := .cells #[.int .i64 aA, .slice bb aq.length bc, .slice a9 ap.length ba, .slice aZ an.length a8] 26 (0, 0)) (zB aH.out)) : ai ≠ ab))
          clear aS
          clear ax
          clear ay
          clear az
          clear ak
          clear al
          clear am
          clear aD
          clear aE
          clear aF
          clear ao
          clear aj
          clear aH
          clear HB
          have aS := n0_
          have ax := n1_
          have ay := n2_
          have az := n3_
          have ak := n4_
          have al := n5_
          have am := n6_
          have aD := n7_
          have aE := n8_
          have aF := n9_
          have ao := n10_
          have aj := n11_
          have aH := n12_
          have HB := n13_
          have bd := n14_
          have bS := n15_
          have bj := n16_
          have be := n17_
          have bg := n18_
          have bf := n19_
          have bh := n20_
          have aX := n21_
          have bi := n22_
          clear n0_ n1_ n2_ n3_ n4_ n5_ n6_ n7_ n8_ n9_ n10_ n11_ n12_ n13_ n14_ n15_ n16_ n17_ n18_ n19_ n20_ n21_ n22_
          clear hb hbox hg
          refine hK.out _ _ ⟨(blk_cell aH.out 0).trans rfl, (blk_cell aH.out 1).trans rfl, (blk_cell aH.out 2).trans rfl, (blk_cell aH.out 3).trans rfl, HS4_, HS5_, HS6_, HS7_, HS8_, HS9_, HS10_, HS11_, HS12_⟩ (fun hHeld => ?_)
          clear hK K
          refine norm_ (a' := ?_) ?_ ?_
          rotate_left
          ·show Act.put _ (some 13) _ = _
           simp only [Act.put, sT, s0, s1, i64_w, i32_w]
           rfl
          refine one_ (i := 5) (N := some 73) #[true, true, true, true, true, true, false, false, false, true, false, false] rfl rfl (one_of HT_.out (by kernel_rfl)) (by decide) (fun K hK => ?_)
          refine goes_ Try.func14 (by kernel_rfl) rfl #[.agg #[.int .i64 aA, .slice bb aq.length bc, .slice a9 ap.length ba, .slice aZ an.length a8], .agg #[.int .i64 ((rd_T41 aN aa).f0), .int .i64 ((rd_T41 aN aa).f1), .int .i64 ((rd_T41 aN aa).f2), .int .u32 ((rd_T41 aN aa).f3), .string ((rd_T41 aN aa).f4), .int .u64 ((rd_T41 aN aa).f5), .int .u64 ((rd_T41 aN aa).f6), .int .i64 ((rd_T41 aN aa).f7), .int .i64 ((rd_T41 aN aa).f8)]] (by rfl) rfl rfl (by (try simp only [List.map_toArray, List.map_cons, List.map_nil]); first | done | rfl | (simp only [List.length_drop, List.length_take]; rfl)) ?_
          with_reducible refine (portreeveref04_Apply.calls k2 aA (fun k_ => ((((aJ k_ ∨ aK k_ ∨ aL k_) ∨ w.heap.size ≤ k_) ∧ (k_ ≠ af ∧ (k_ ≠ ag ∧ k_ ≠ ab))) ∧ k_ ≠ ai)) _ _ aq (fun k_ => ((((aJ k_ ∨ aK k_ ∨ aL k_) ∨ w.heap.size ≤ k_) ∧ (k_ ≠ af ∧ (k_ ≠ ag ∧ k_ ≠ ab))) ∧ k_ ≠ ai)) _ _ ap (fun k_ => ((((aJ k_ ∨ aK k_ ∨ aL k_) ∨ w.heap.size ≤ k_) ∧ (k_ ≠ af ∧ (k_ ≠ ag ∧ k_ ≠ ab))) ∧ k_ ≠ ai)) _ _ an ((rd_T41 aN aa).f0) ((rd_T41 aN aa).f1) ((rd_T41 aN aa).f2) ((rd_T41 aN aa).f3) ((rd_T41 aN aa).f4) ((rd_T41 aN aa).f5) ((rd_T41 aN aa).f6) ((rd_T41 aN aa).f7) ((rd_T41 aN aa).f8) bz bC bF bH bT _ ?side1 ?side2 ?side3 ej.out).mono ?_
          (case side1 => exact aD.out)
          (case side2 => exact aE.out)
          (case side3 => exact aF.out)
          rintro e w47 ⟨v428, v431, v434, rfl, ho0, ho1, ho2, hb⟩
          have HS4_ := (hb.cell (World.block_lt_of_cell? _ _ (hHeld.2.2.2.2.1))).trans (hHeld.2.2.2.2.1)
          have HS5_ := (hb.cell (World.block_lt_of_cell? _ _ (hHeld.2.2.2.2.2.1))).trans (hHeld.2.2.2.2.2.1)
          have HS6_ := (hb.cell (World.block_lt_of_cell? _ _ (hHeld.2.2.2.2.2.2.1))).trans (hHeld.2.2.2.2.2.2.1)
          have HS7_ := (hb.cell (World.block_lt_of_cell? _ _ (hHeld.2.2.2.2.2.2.2.1))).trans (hHeld.2.2.2.2.2.2.2.1)
          have HS8_ := (hb.cell (World.block_lt_of_cell? _ _ (hHeld.2.2.2.2.2.2.2.2.1))).trans (hHeld.2.2.2.2.2.2.2.2.1)
          have HS9_ := (hb.cell (World.block_lt_of_cell? _ _ (hHeld.2.2.2.2.2.2.2.2.2.1))).trans (hHeld.2.2.2.2.2.2.2.2.2.1)
          have HS10_ := (hb.cell (World.block_lt_of_cell? _ _ (hHeld.2.2.2.2.2.2.2.2.2.2.1))).trans (hHeld.2.2.2.2.2.2.2.2.2.2.1)
          have HS11_ := (hb.cell (World.block_lt_of_cell? _ _ (hHeld.2.2.2.2.2.2.2.2.2.2.2.1))).trans (hHeld.2.2.2.2.2.2.2.2.2.2.2.1)
          have HS12_ := (hb.cell (World.block_lt_of_cell? _ _ (hHeld.2.2.2.2.2.2.2.2.2.2.2.2))).trans (hHeld.2.2.2.2.2.2.2.2.2.2.2.2)
          refine ⟨_, rfl, ?_⟩
          have n0_ := Aside0.mk (Kd.V_below (zV aS.out) hb)
          have n1_ := Aside0.mk (Kd.V_below (zV ax.out) hb)
          have n2_ := Aside0.mk (Kd.V_below (zV ay.out) hb)
          have n3_ := Aside0.mk (Kd.V_below (zV az.out) hb)
          have n4_ := Aside0.mk (Kd.V_below (zV ak.out) hb)
          have n5_ := Aside0.mk (Kd.V_below (zV al.out) hb)
          have n6_ := Aside0.mk (Kd.V_below (zV am.out) hb)
          have n7_ := Aside0.mk (Kd.V_below (zV aD.out) hb)
          have n8_ := Aside0.mk (Kd.V_below (zV aE.out) hb)
          have n9_ := Aside0.mk (Kd.V_below (zV aF.out) hb)
          have n10_ := Aside0.mk (Kd.V_lower (Kd.V_mono (ok' := fun k_ => ((aJ k_ ∨ aK k_ ∨ aL k_) ∨ w.heap.size ≤ k_) ∧ k_ ≠ af ∧ k_ ≠ ag ∧ k_ ≠ ab ∧ k_ ≠ ai) ho0 (fun k_ hk_ => ⟨Or.elim hk_ (fun hs_ => Or.elim hs_ (fun hs_ => hs_.1.1) (fun hs_ => Or.elim hs_ (fun hs_ => hs_.1.1) (fun hs_ => hs_.1.1))) (fun hn_ => (.inr (Nat.le_trans (below_size (by repeat (first | (with_reducible first | exact HB.out | apply pA | apply pN | apply pD | refine pS ?_ aP.out | refine pS ?_ aQ.out | refine pS ?_ aW.out | refine pS ?_ bj.out) | exact HB.out))) hn_))), Or.elim hk_ (fun hs_ => Or.elim hs_ (fun hs_ => hs_.1.2.1) (fun hs_ => Or.elim hs_ (fun hs_ => hs_.1.2.1) (fun hs_ => hs_.1.2.1))) (fun hn_ => (Kd.freshB (g := af) (o := .cells #[.int .i64 ah, .slice ar ac.length au, .slice av ad.length aw, .slice aB ae.length aC, .string aM, .string aG, .bool aR, .int .i64 aI] 52 (0, 0)) (zB ao.out) k_ hn_)), Or.elim hk_ (fun hs_ => Or.elim hs_ (fun hs_ => hs_.1.2.2.1) (fun hs_ => Or.elim hs_ (fun hs_ => hs_.1.2.2.1) (fun hs_ => hs_.1.2.2.1))) (fun hn_ => (Kd.freshB (g := ag) (o := .cells #[.int .i64 ah, .slice ar ac.length au, .slice av ad.length aw, .slice aB ae.length aC] 26 (0, 0)) (zB aj.out) k_ hn_)), Or.elim hk_ (fun hs_ => Or.elim hs_ (fun hs_ => hs_.1.2.2.2) (fun hs_ => Or.elim hs_ (fun hs_ => hs_.1.2.2.2) (fun hs_ => hs_.1.2.2.2))) (fun hn_ => (Kd.freshB (g := ab) (o := .cells #[.int .i64 aA, .slice bb aq.length bc, .slice a9 ap.length ba, .slice aZ an.length a8] 26 (0, 0)) (zB aH.out) k_ hn_)), Or.elim hk_ (fun hs_ => Or.elim hs_ (fun hs_ => hs_.2) (fun hs_ => Or.elim hs_ (fun hs_ => hs_.2) (fun hs_ => hs_.2))) (fun hn_ => (Kd.freshB (g := ai) (o := .cells #[.int .i64 0, .slice none 0 0, .slice none 0 0, .slice none 0 0] 26 (0, 0)) (zB bd.out) k_ hn_))⟩)) (below_size (by repeat (first | (with_reducible first | exact HB.out | apply pA | apply pN | apply pD | refine pS ?_ aP.out | refine pS ?_ aQ.out | refine pS ?_ aW.out | refine pS ?_ bj.out) | exact HB.out))))
          have n11_ := Aside0.mk (Kd.V_lower (Kd.V_mono (ok' := fun k_ => ((aJ k_ ∨ aK k_ ∨ aL k_) ∨ w.heap.size ≤ k_) ∧ k_ ≠ af ∧ k_ ≠ ag ∧ k_ ≠ ab ∧ k_ ≠ ai) ho1 (fun k_ hk_ => ⟨Or.elim hk_ (fun hs_ => Or.elim hs_ (fun hs_ => hs_.1.1) (fun hs_ => Or.elim hs_ (fun hs_ => hs_.1.1) (fun hs_ => hs_.1.1))) (fun hn_ => (.inr (Nat.le_trans (below_size (by repeat (first | (with_reducible first | exact HB.out | apply pA | apply pN | apply pD | refine pS ?_ aP.out | refine pS ?_ aQ.out | refine pS ?_ aW.out | refine pS ?_ bj.out) | exact HB.out))) hn_))), Or.elim hk_ (fun hs_ => Or.elim hs_ (fun hs_ => hs_.1.2.1) (fun hs_ => Or.elim hs_ (fun hs_ => hs_.1.2.1) (fun hs_ => hs_.1.2.1))) (fun hn_ => (Kd.freshB (g := af) (o := .cells #[.int .i64 ah, .slice ar ac.length au, .slice av ad.length aw, .slice aB ae.length aC, .string aM, .string aG, .bool aR, .int .i64 aI] 52 (0, 0)) (zB ao.out) k_ hn_)), Or.elim hk_ (fun hs_ => Or.elim hs_ (fun hs_ => hs_.1.2.2.1) (fun hs_ => Or.elim hs_ (fun hs_ => hs_.1.2.2.1) (fun hs_ => hs_.1.2.2.1))) (fun hn_ => (Kd.freshB (g := ag) (o := .cells #[.int .i64 ah, .slice ar ac.length au, .slice av ad.length aw, .slice aB ae.length aC] 26 (0, 0)) (zB aj.out) k_ hn_)), Or.elim hk_ (fun hs_ => Or.elim hs_ (fun hs_ => hs_.1.2.2.2) (fun hs_ => Or.elim hs_ (fun hs_ => hs_.1.2.2.2) (fun hs_ => hs_.1.2.2.2))) (fun hn_ => (Kd.freshB (g := ab) (o := .cells #[.int .i64 aA, .slice bb aq.length bc, .slice a9 ap.length ba, .slice aZ an.length a8] 26 (0, 0)) (zB aH.out) k_ hn_)), Or.elim hk_ (fun hs_ => Or.elim hs_ (fun hs_ => hs_.2) (fun hs_ => Or.elim hs_ (fun hs_ => hs_.2) (fun hs_ => hs_.2))) (fun hn_ => (Kd.freshB (g := ai) (o := .cells #[.int .i64 0, .slice none 0 0, .slice none 0 0, .slice none 0 0] 26 (0, 0)) (zB bd.out) k_ hn_))⟩)) (below_size (by repeat (first | (with_reducible first | exact HB.out | apply pA | apply pN | apply pD | refine pS ?_ aP.out | refine pS ?_ aQ.out | refine pS ?_ aW.out | refine pS ?_ bj.out) | exact HB.out))))
          have n12_ := Aside0.mk (Kd.V_lower (Kd.V_mono (ok' := fun k_ => ((aJ k_ ∨ aK k_ ∨ aL k_) ∨ w.heap.size ≤ k_) ∧ k_ ≠ af ∧ k_ ≠ ag ∧ k_ ≠ ab ∧ k_ ≠ ai) ho2 (fun k_ hk_ => ⟨Or.elim hk_ (fun hs_ => Or.elim hs_ (fun hs_ => hs_.1.1) (fun hs_ => Or.elim hs_ (fun hs_ => hs_.1.1) (fun hs_ => hs_.1.1))) (fun hn_ => (.inr (Nat.le_trans (below_size (by repeat (first | (with_reducible first | exact HB.out | apply pA | apply pN | apply pD | refine pS ?_ aP.out | refine pS ?_ aQ.out | refine pS ?_ aW.out | refine pS ?_ bj.out) | exact HB.out))) hn_))), Or.elim hk_ (fun hs_ => Or.elim hs_ (fun hs_ => hs_.1.2.1) (fun hs_ => Or.elim hs_ (fun hs_ => hs_.1.2.1) (fun hs_ => hs_.1.2.1))) (fun hn_ => (Kd.freshB (g := af) (o := .cells #[.int .i64 ah, .slice ar ac.length au, .slice av ad.length aw, .slice aB ae.length aC, .string aM, .string aG, .bool aR, .int .i64 aI] 52 (0, 0)) (zB ao.out) k_ hn_)), Or.elim hk_ (fun hs_ => Or.elim hs_ (fun hs_ => hs_.1.2.2.1) (fun hs_ => Or.elim hs_ (fun hs_ => hs_.1.2.2.1) (fun hs_ => hs_.1.2.2.1))) (fun hn_ => (Kd.freshB (g := ag) (o := .cells #[.int .i64 ah, .slice ar ac.length au, .slice av ad.length aw, .slice aB ae.length aC] 26 (0, 0)) (zB aj.out) k_ hn_)), Or.elim hk_ (fun hs_ => Or.elim hs_ (fun hs_ => hs_.1.2.2.2) (fun hs_ => Or.elim hs_ (fun hs_ => hs_.1.2.2.2) (fun hs_ => hs_.1.2.2.2))) (fun hn_ => (Kd.freshB (g := ab) (o := .cells #[.int .i64 aA, .slice bb aq.length bc, .slice a9 ap.length ba, .slice aZ an.length a8] 26 (0, 0)) (zB aH.out) k_ hn_)), Or.elim hk_ (fun hs_ => Or.elim hs_ (fun hs_ => hs_.2) (fun hs_ => Or.elim hs_ (fun hs_ => hs_.2) (fun hs_ => hs_.2))) (fun hn_ => (Kd.freshB (g := ai) (o := .cells #[.int .i64 0, .slice none 0 0, .slice none 0 0, .slice none 0 0] 26 (0, 0)) (zB bd.out) k_ hn_))⟩)) (below_size (by repeat (first | (with_reducible first | exact HB.out | apply pA | apply pN | apply pD | refine pS ?_ aP.out | refine pS ?_ aQ.out | refine pS ?_ aW.out | refine pS ?_ bj.out) | exact HB.out))))
          have n13_ := Aside0.mk (blk_below (g := af) (o := .cells #[.int .i64 ah, .slice ar ac.length au, .slice av ad.length aw, .slice aB ae.length aC, .string aM, .string aG, .bool aR, .int .i64 aI] 52 (0, 0)) (zB ao.out) hb)
          have n14_ := Aside0.mk (blk_below (g := ag) (o := .cells #[.int .i64 ah, .slice ar ac.length au, .slice av ad.length aw, .slice aB ae.length aC] 26 (0, 0)) (zB aj.out) hb)
          have n15_ := Aside0.mk (blk_below (g := ab) (o := .cells #[.int .i64 aA, .slice bb aq.length bc, .slice a9 ap.length ba, .slice aZ an.length a8] 26 (0, 0)) (zB aH.out) hb)
          have n16_ := Aside0.mk (blk_below (g := ai) (o := .cells #[.int .i64 0, .slice none 0 0, .slice none 0 0, .slice none 0 0] 26 (0, 0)) (zB bd.out) hb)
          have n17_ := Aside0.mk (below_step (by repeat (first | (with_reducible first | exact HB.out | apply pA | apply pN | apply pD | refine pS ?_ aP.out | refine pS ?_ aQ.out | refine pS ?_ aW.out | refine pS ?_ bj.out) | exact HB.out)) hb)
          clear aS
          clear ax
          clear ay
          clear az
          clear ak
          clear al
          clear am
          clear aD
          clear aE
          clear aF
          clear ao
          clear aj
          clear aH
          clear bd
          clear HB
          have aS := n0_
          have ax := n1_
          have ay := n2_
          have az := n3_
          have ak := n4_
          have al := n5_
          have am := n6_
          have aD := n7_
          have aE := n8_
          have aF := n9_
          have bq := n10_
          have br := n11_
          have bs := n12_
          have ao := n13_
          have aj := n14_
          have aH := n15_
          have bd := n16_
          have HB := n17_
          clear n0_ n1_ n2_ n3_ n4_ n5_ n6_ n7_ n8_ n9_ n10_ n11_ n12_ n13_ n14_ n15_ n16_ n17_
          (try clear hb)
          (try clear hb2)
          (try clear hk)
          (try clear hi)
          (try clear ho0)
          (try clear ho1)
          (try clear ho2)
          refine hK.out _ _ ⟨(blk_cell aH.out 0).trans rfl, (blk_cell aH.out 1).trans rfl, (blk_cell aH.out 2).trans rfl, (blk_cell aH.out 3).trans rfl, HS4_, HS5_, HS6_, HS7_, HS8_, HS9_, HS10_, HS11_, HS12_⟩ (fun hHeld => ?_)
          clear hK K
          refine norm_ (a' := ?_) ?_ ?_
          rotate_left
          ·show Act.put _ (some 73) _ = _
           simp only [Act.put, sT, s0, s1, i64_w, i32_w]
           rfl
          refine pure_ (i := 6) (N := some 67) (v := ?_) (a' := ?_) #[true, true, true, true, true, true, true, false, false, true, false, false] rfl rfl (any_of HT_.out (by kernel_rfl)) (fun _ _ _ h => h) (Or.inl ⟨by rfl, ?_⟩) ?_ ?_
          rotate_left
          ·intro w'
           go_simp
           with_reducible rfl
          rotate_left
          ·simp only [Act.put, sT, s0, s1, i64_w, i32_w]
           rfl
          refine pure_ (i := 7) (N := some 74) (v := ?_) (a' := ?_) #[true, true, true, true, true, true, true, true, false, true, false, false] rfl rfl (any_of HT_.out (by kernel_rfl)) (fun _ _ _ h => h) (Or.inl ⟨by rfl, ?_⟩) ?_ ?_
          rotate_left
          ·intro w'
           go_simp
           with_reducible rfl
          rotate_left
          ·simp only [Act.put, sT, s0, s1, i64_w, i32_w]
           rfl
          refine pure_ (i := 8) (N := some 75) (v := ?_) (a' := ?_) #[true, true, true, true, true, true, true, true, true, true, false, false] rfl rfl (any_of HT_.out (by kernel_rfl)) (fun _ _ _ h => h) (Or.inl ⟨by rfl, ?_⟩) ?_ ?_
          rotate_left
          ·intro w'
           go_simp
           with_reducible rfl
          rotate_left
          ·simp only [Act.put, sT, s0, s1, i64_w, i32_w]
           rfl
          exact norm_ (by simp only [putAll, Act.put, sT, s0, s1]) (hCont (v428, v431, v434, ai) _ ⟨hHeld, (zV bq.out), (zV br.out), (zV bs.out), (zV (Kd.V_mono aS.out (fun _ hk => ⟨hk.1.1, ⟨hk.1.2.1, ⟨hk.1.2.2.1, ⟨hk.1.2.2.2, hk.2⟩⟩⟩⟩))), (zV (Kd.V_mono ax.out (fun _ hk => ⟨hk.1.1, ⟨hk.1.2.1, ⟨hk.1.2.2.1, ⟨hk.1.2.2.2, hk.2⟩⟩⟩⟩))), (zV (Kd.V_mono ay.out (fun _ hk => ⟨hk.1.1, ⟨hk.1.2.1, ⟨hk.1.2.2.1, ⟨hk.1.2.2.2, hk.2⟩⟩⟩⟩))), (zV (Kd.V_mono az.out (fun _ hk => ⟨hk.1.1, ⟨hk.1.2.1, ⟨hk.1.2.2.1, ⟨hk.1.2.2.2, hk.2⟩⟩⟩⟩))), (zV (Kd.V_mono ak.out (fun _ hk => ⟨hk.1.1, ⟨hk.1.2.1, ⟨hk.1.2.2.1, ⟨hk.1.2.2.2, hk.2⟩⟩⟩⟩))), (zV (Kd.V_mono al.out (fun _ hk => ⟨hk.1.1, ⟨hk.1.2.1, ⟨hk.1.2.2.1, ⟨hk.1.2.2.2, hk.2⟩⟩⟩⟩))), (zV (Kd.V_mono am.out (fun _ hk => ⟨hk.1.1, ⟨hk.1.2.1, ⟨hk.1.2.2.1, ⟨hk.1.2.2.2, hk.2⟩⟩⟩⟩))), (zV (Kd.V_mono aD.out (fun _ hk => ⟨hk.1.1, ⟨hk.1.2.1, ⟨hk.1.2.2.1, ⟨hk.1.2.2.2, hk.2⟩⟩⟩⟩))), (zV (Kd.V_mono aE.out (fun _ hk => ⟨hk.1.1, ⟨hk.1.2.1, ⟨hk.1.2.2.1, ⟨hk.1.2.2.2, hk.2⟩⟩⟩⟩))), (zV (Kd.V_mono aF.out (fun _ hk => ⟨hk.1.1, ⟨hk.1.2.1, ⟨hk.1.2.2.1, ⟨hk.1.2.2.2, hk.2⟩⟩⟩⟩))), (zB ao.out), (zB aj.out), (zB aH.out), (zB bd.out), bS.out, bj.out, be.out, bg.out, bf.out, bh.out, aX.out, bi.out, (by repeat (first | (with_reducible first | exact HB.out | apply pA | apply pN | apply pD | refine pS ?_ aP.out | refine pS ?_ aQ.out | refine pS ?_ aW.out | refine pS ?_ bj.out) | exact HB.out))⟩)
        rintro ⟨v428, v431, v434, ai⟩ w48 ⟨hS_, h0_, h1_, h2_, h3_, h4_, h5_, h6_, h7_, h8_, h9_, h10_, h11_, h12_, h13_, h14_, h15_, h16_, h17_, h18_, h19_, h20_, h21_, h22_, h23_, h24_, h25_⟩
        have n0_ : Aside0 (Kd.V k76 76 w48 w.heap.size (fun k_ => ((aJ k_ ∨ aK k_ ∨ aL k_) ∨ w.heap.size ≤ k_) ∧ k_ ≠ af ∧ k_ ≠ ag ∧ k_ ≠ ab ∧ k_ ≠ ai) v428 bC) := ⟨h0_⟩
        have n1_ : Aside0 (Kd.V k72 72 w48 w.heap.size (fun k_ => ((aJ k_ ∨ aK k_ ∨ aL k_) ∨ w.heap.size ≤ k_) ∧ k_ ≠ af ∧ k_ ≠ ag ∧ k_ ≠ ab ∧ k_ ≠ ai) v431 bF) := ⟨h1_⟩
        have n2_ : Aside0 (Kd.V k64 64 w48 w.heap.size (fun k_ => ((aJ k_ ∨ aK k_ ∨ aL k_) ∨ w.heap.size ≤ k_) ∧ k_ ≠ af ∧ k_ ≠ ag ∧ k_ ≠ ab ∧ k_ ≠ ai) v434 bH) := ⟨h2_⟩
        have n3_ : Aside0 (Kd.V k41 41 w48 w.heap.size (fun k_ => ((aJ k_ ∨ aK k_ ∨ aL k_) ∨ w.heap.size ≤ k_) ∧ k_ ≠ af ∧ k_ ≠ ag ∧ k_ ≠ ab ∧ k_ ≠ ai) (.slice (some aO) aN.length dV) aN) := ⟨h3_⟩
        have n4_ : Aside0 (Kd.V k76 76 w48 w.heap.size (fun k_ => ((aJ k_ ∨ aK k_ ∨ aL k_) ∨ w.heap.size ≤ k_) ∧ k_ ≠ af ∧ k_ ≠ ag ∧ k_ ≠ ab ∧ k_ ≠ ai) (.slice ar ac.length au) ac) := ⟨h4_⟩
        have n5_ : Aside0 (Kd.V k72 72 w48 w.heap.size (fun k_ => ((aJ k_ ∨ aK k_ ∨ aL k_) ∨ w.heap.size ≤ k_) ∧ k_ ≠ af ∧ k_ ≠ ag ∧ k_ ≠ ab ∧ k_ ≠ ai) (.slice av ad.length aw) ad) := ⟨h5_⟩
        have n6_ : Aside0 (Kd.V k64 64 w48 w.heap.size (fun k_ => ((aJ k_ ∨ aK k_ ∨ aL k_) ∨ w.heap.size ≤ k_) ∧ k_ ≠ af ∧ k_ ≠ ag ∧ k_ ≠ ab ∧ k_ ≠ ai) (.slice aB ae.length aC) ae) := ⟨h6_⟩
        have n7_ : Aside0 (Kd.V k76 76 w48 w.heap.size (fun k_ => ((aJ k_ ∨ aK k_ ∨ aL k_) ∨ w.heap.size ≤ k_) ∧ k_ ≠ af ∧ k_ ≠ ag ∧ k_ ≠ ab ∧ k_ ≠ ai) (.slice ar ac.length au) ac) := ⟨h7_⟩
        have n8_ : Aside0 (Kd.V k72 72 w48 w.heap.size (fun k_ => ((aJ k_ ∨ aK k_ ∨ aL k_) ∨ w.heap.size ≤ k_) ∧ k_ ≠ af ∧ k_ ≠ ag ∧ k_ ≠ ab ∧ k_ ≠ ai) (.slice av ad.length aw) ad) := ⟨h8_⟩
        have n9_ : Aside0 (Kd.V k64 64 w48 w.heap.size (fun k_ => ((aJ k_ ∨ aK k_ ∨ aL k_) ∨ w.heap.size ≤ k_) ∧ k_ ≠ af ∧ k_ ≠ ag ∧ k_ ≠ ab ∧ k_ ≠ ai) (.slice aB ae.length aC) ae) := ⟨h9_⟩
        have n10_ : Aside0 (Kd.V k76 76 w48 w.heap.size (fun k_ => ((aJ k_ ∨ aK k_ ∨ aL k_) ∨ w.heap.size ≤ k_) ∧ k_ ≠ af ∧ k_ ≠ ag ∧ k_ ≠ ab ∧ k_ ≠ ai) (.slice bb aq.length bc) aq) := ⟨h10_⟩
        have n11_ : Aside0 (Kd.V k72 72 w48 w.heap.size (fun k_ => ((aJ k_ ∨ aK k_ ∨ aL k_) ∨ w.heap.size ≤ k_) ∧ k_ ≠ af ∧ k_ ≠ ag ∧ k_ ≠ ab ∧ k_ ≠ ai) (.slice a9 ap.length ba) ap) := ⟨h11_⟩
        have n12_ : Aside0 (Kd.V k64 64 w48 w.heap.size (fun k_ => ((aJ k_ ∨ aK k_ ∨ aL k_) ∨ w.heap.size ≤ k_) ∧ k_ ≠ af ∧ k_ ≠ ag ∧ k_ ≠ ab ∧ k_ ≠ ai) (.slice aZ an.length a8) an) := ⟨h12_⟩
        have n13_ : Aside0 (w48.heap[af]? = some (.cells #[.int .i64 ah, .slice ar ac.length au, .slice av ad.length aw, .slice aB ae.length aC, .string aM, .string aG, .bool aR, .int .i64 aI] 52 (0, 0))) := ⟨h13_⟩
        have n14_ : Aside0 (w48.heap[ag]? = some (.cells #[.int .i64 ah, .slice ar ac.length au, .slice av ad.length aw, .slice aB ae.length aC] 26 (0, 0))) := ⟨h14_⟩
        have n15_ : Aside0 (w48.heap[ab]? = some (.cells #[.int .i64 aA, .slice bb aq.length bc, .slice a9 ap.length ba, .slice aZ an.length a8] 26 (0, 0))) := ⟨h15_⟩
        have n16_ : Aside0 (w48.heap[ai]? = some (.cells #[.int .i64 0, .slice none 0 0, .slice none 0 0, .slice none 0 0] 26 (0, 0))) := ⟨h16_⟩
        have n17_ : Aside0 (w.heap.size ≤ ai) := ⟨h17_⟩
        have n18_ : Aside0 (w.heap.size ≤ ai) := ⟨h18_⟩
        have n19_ : Aside0 (af ≠ ai) := ⟨h19_⟩
        have n20_ : Aside0 (ai ≠ af) := ⟨h20_⟩
        have n21_ : Aside0 (ag ≠ ai) := ⟨h21_⟩
        have n22_ : Aside0 (ai ≠ ag) := ⟨h22_⟩
        have n23_ : Aside0 (ab ≠ ai) := ⟨h23_⟩
        have n24_ : Aside0 (ai ≠ ab) := ⟨h24_⟩
        have n25_ : Aside0 (Below w.heap.size w w48) := ⟨h25_⟩
        clear aS
        clear ax
        clear ay
        clear az
        clear ak
        clear al
        clear am
        clear aD
        clear aE
        clear aF
        clear ao
        clear aj
        clear aH
        clear HB
        clear h0_ h1_ h2_ h3_ h4_ h5_ h6_ h7_ h8_ h9_ h10_ h11_ h12_ h13_ h14_ h15_ h16_ h17_ h18_ h19_ h20_ h21_ h22_ h23_ h24_ h25_
        have bq := n0_
        have br := n1_
        have bs := n2_
        have aS := n3_
        have ax := n4_
        have ay := n5_
        have az := n6_
        have ak := n7_
        have al := n8_
        have am := n9_
        have aD := n10_
        have aE := n11_
        have aF := n12_
        have ao := n13_
        have aj := n14_
        have aH := n15_
        have bd := n16_
        have bS := n17_
        have bj := n18_
        have be := n19_
        have bg := n20_
        have bf := n21_
        have bh := n22_
        have aX := n23_
        have bi := n24_
        have HB := n25_
        clear n0_ n1_ n2_ n3_ n4_ n5_ n6_ n7_ n8_ n9_ n10_ n11_ n12_ n13_ n14_ n15_ n16_ n17_ n18_ n19_ n20_ n21_ n22_ n23_ n24_ n25_
        have hHeld : w48.cell? ⟨ab, 0, none⟩ = some (.int .i64 aA) ∧ w48.cell? ⟨ab, 1, none⟩ = some (.slice bb aq.length bc) ∧ w48.cell? ⟨ab, 2, none⟩ = some (.slice a9 ap.length ba) ∧ w48.cell? ⟨ab, 3, none⟩ = some (.slice aZ an.length a8) ∧ w48.cell? (aO.add ((aa).toNat * 9)) = some (.int .i64 ((rd_T41 aN aa).f0)) ∧ w48.cell? ⟨(aO.add ((aa).toNat * 9)).block, (aO.add ((aa).toNat * 9)).off + 1, none⟩ = some (.int .i64 ((rd_T41 aN aa).f1)) ∧ w48.cell? ⟨(aO.add ((aa).toNat * 9)).block, (aO.add ((aa).toNat * 9)).off + 2, none⟩ = some (.int .i64 ((rd_T41 aN aa).f2)) ∧ w48.cell? ⟨(aO.add ((aa).toNat * 9)).block, (aO.add ((aa).toNat * 9)).off + 3, none⟩ = some (.int .u32 ((rd_T41 aN aa).f3)) ∧ w48.cell? ⟨(aO.add ((aa).toNat * 9)).block, (aO.add ((aa).toNat * 9)).off + 4, none⟩ = some (.string ((rd_T41 aN aa).f4)) ∧ w48.cell? ⟨(aO.add ((aa).toNat * 9)).block, (aO.add ((aa).toNat * 9)).off + 5, none⟩ = some (.int .u64 ((rd_T41 aN aa).f5)) ∧ w48.cell? ⟨(aO.add ((aa).toNat * 9)).block, (aO.add ((aa).toNat * 9)).off + 6, none⟩ = some (.int .u64 ((rd_T41 aN aa).f6)) ∧ w48.cell? ⟨(aO.add ((aa).toNat * 9)).block, (aO.add ((aa).toNat * 9)).off + 7, none⟩ = some (.int .i64 ((rd_T41 aN aa).f7)) ∧ w48.cell? ⟨(aO.add ((aa).toNat * 9)).block, (aO.add ((aa).toNat * 9)).off + 8, none⟩ = some (.int .i64 ((rd_T41 aN aa).f8)) := hS_
        obtain ⟨dn, dp, dW⟩ := Kd.V_slice bq.out
        (first | subst dW | (injection dW with f1_ f2_ f3_; have f4_ := f1_.symm; have f5_ := f3_.symm; clear f1_ f2_ f3_; subst f4_; subst f5_))
        obtain ⟨dX, dY, dZ⟩ := Kd.V_slice br.out
        (first | subst dZ | (injection dZ with f1_ f2_ f3_; have f4_ := f1_.symm; have f5_ := f3_.symm; clear f1_ f2_ f3_; subst f4_; subst f5_))
        obtain ⟨ep, eq, d0⟩ := Kd.V_slice bs.out
        (first | subst d0 | (injection d0 with f1_ f2_ f3_; have f4_ := f1_.symm; have f5_ := f3_.symm; clear f1_ f2_ f3_; subst f4_; subst f5_))
        refine norm_ (a' := ?_) ?_ ?_
        rotate_left
        ·simp only [putAll, Act.put, sT, s0, s1]
         rfl
        refine one_ (i := 10) (N := none) #[true, true, true, true, true, true, true, true, true, true, true, false] rfl rfl (one_of HT_.out (by kernel_rfl)) (by decide) (fun K hK => ?_)
        have hs49 : w48.cell? ⟨ai, 0, none⟩ = some (.int .i64 0) := (blk_cell bd.out 0).trans rfl
        have hfs49 := blk_frozen bd.out 0
        have hns49_0 := be.out
        have hns49_1 := bf.out
        have hns49_2 := aX.out
        have hms49_0 := bg.out
        have hms49_1 := bh.out
        have hms49_2 := bi.out
        have hs51 : w48.cell? ⟨ai, 1, none⟩ = some (.slice none 0 0) := (blk_cell bd.out 1).trans rfl
        have hfs51 := blk_frozen bd.out 1
        have hns51_0 := be.out
        have hns51_1 := bf.out
        have hns51_2 := aX.out
        have hms51_0 := bg.out
        have hms51_1 := bh.out
        have hms51_2 := bi.out
        have hs53 : w48.cell? ⟨ai, 2, none⟩ = some (.slice none 0 0) := (blk_cell bd.out 2).trans rfl
        have hfs53 := blk_frozen bd.out 2
        have hns53_0 := be.out
        have hns53_1 := bf.out
        have hns53_2 := aX.out
        have hms53_0 := bg.out
        have hms53_1 := bh.out
        have hms53_2 := bi.out
        have hs55 : w48.cell? ⟨ai, 3, none⟩ = some (.slice none 0 0) := (blk_cell bd.out 3).trans rfl
        have hfs55 := blk_frozen bd.out 3
        have hns55_0 := be.out
        have hns55_1 := bf.out
        have hns55_2 := aX.out
        have hms55_0 := bg.out
        have hms55_1 := bh.out
        have hms55_2 := bi.out
        refine skip_ (w1 := ?_) (by rfl) rfl ?_ ?_
        rotate_left
        ·go_simp
         rfl
        refine hK.out _ _ ⟨(fC aX.out hHeld.1), (fC aX.out hHeld.2.1), (fC aX.out hHeld.2.2.1), (fC aX.out hHeld.2.2.2.1), (fC (g1 := ai) (by have z_ := Kd.own_blk (Kd.V_away aS.out (fun _ hk => hk.2.2.2.2)); first | exact z_ | (rw [add_block]; exact z_) | (show (Addr.add _ _).block ≠ _; rw [add_block]; exact z_)) hHeld.2.2.2.2.1), (fC (g1 := ai) (by have z_ := Kd.own_blk (Kd.V_away aS.out (fun _ hk => hk.2.2.2.2)); first | exact z_ | (rw [add_block]; exact z_) | (show (Addr.add _ _).block ≠ _; rw [add_block]; exact z_)) hHeld.2.2.2.2.2.1), (fC (g1 := ai) (by have z_ := Kd.own_blk (Kd.V_away aS.out (fun _ hk => hk.2.2.2.2)); first | exact z_ | (rw [add_block]; exact z_) | (show (Addr.add _ _).block ≠ _; rw [add_block]; exact z_)) hHeld.2.2.2.2.2.2.1), (fC (g1 := ai) (by have z_ := Kd.own_blk (Kd.V_away aS.out (fun _ hk => hk.2.2.2.2)); first | exact z_ | (rw [add_block]; exact z_) | (show (Addr.add _ _).block ≠ _; rw [add_block]; exact z_)) hHeld.2.2.2.2.2.2.2.1), (fC (g1 := ai) (by have z_ := Kd.own_blk (Kd.V_away aS.out (fun _ hk => hk.2.2.2.2)); first | exact z_ | (rw [add_block]; exact z_) | (show (Addr.add _ _).block ≠ _; rw [add_block]; exact z_)) hHeld.2.2.2.2.2.2.2.2.1), (fC (g1 := ai) (by have z_ := Kd.own_blk (Kd.V_away aS.out (fun _ hk => hk.2.2.2.2)); first | exact z_ | (rw [add_block]; exact z_) | (show (Addr.add _ _).block ≠ _; rw [add_block]; exact z_)) hHeld.2.2.2.2.2.2.2.2.2.1), (fC (g1 := ai) (by have z_ := Kd.own_blk (Kd.V_away aS.out (fun _ hk => hk.2.2.2.2)); first | exact z_ | (rw [add_block]; exact z_) | (show (Addr.add _ _).block ≠ _; rw [add_block]; exact z_)) hHeld.2.2.2.2.2.2.2.2.2.2.1), (fC (g1 := ai) (by have z_ := Kd.own_blk (Kd.V_away aS.out (fun _ hk => hk.2.2.2.2)); first | exact z_ | (rw [add_block]; exact z_) | (show (Addr.add _ _).block ≠ _; rw [add_block]; exact z_)) hHeld.2.2.2.2.2.2.2.2.2.2.2.1), (fC (g1 := ai) (by have z_ := Kd.own_blk (Kd.V_away aS.out (fun _ hk => hk.2.2.2.2)); first | exact z_ | (rw [add_block]; exact z_) | (show (Addr.add _ _).block ≠ _; rw [add_block]; exact z_)) hHeld.2.2.2.2.2.2.2.2.2.2.2.2)⟩ (fun hHeld => ?_)
        clear hK K
        refine pure_ (i := 11) (N := some 14) (v := ?_) (a' := ?_) #[true, true, true, true, true, true, true, true, true, true, true, true] rfl rfl (any_of HT_.out (by kernel_rfl)) (fun _ _ _ h => h) (Or.inl ⟨by rfl, ?_⟩) ?_ ?_
        rotate_left
        ·intro w'
         go_simp
         with_reducible rfl
        rotate_left
        ·simp only [Act.put, sT, s0, s1, i64_w, i32_w]
         rfl
        refine done_ (done_of HT_.out (by kernel_rfl)) ?_
        have fH := bg.out
        have fI := be.out
        have fJ := bh.out
        have fK := bf.out
        have fL := bi.out
        have fM := aX.out
        obtain ⟨ex, ey, ez, eA, eB, eC, eD, eE⟩ := bk4 bd.out
        have fN := bD.out
        have fO := bm.out
        have fP := bE.out
        have fQ := bn.out
        obtain ⟨eF, eG, eH, eI, eJ, eK, eL, eM⟩ := bk4 aH.out
        try go_wp2
        go_roundg k2
        case measure => have := eh.out; have := ei.out; omega
        case rel => exact ⟨(wrap64 (aa + 1)), (bz), (bC), (bF), (bH), (.slice dn bC.length dp), (.slice dX bF.length dY), (.slice ep bH.length eq), (by first | rfl | (simp; done) | (simp [*]; done)), H', ⟨by have := eh.out; have := ei.out; omega⟩, ⟨(fV2 aS.out (fun k_ hk => (⟨hk, hk.2.2.2.2⟩ : _ ∧ k_ ≠ ai)) (fun k_ hk => (⟨hk, hk.1.2.2.2.1⟩ : _ ∧ k_ ≠ ab)) (fun _ hk => ⟨hk.1.1.1, ⟨hk.1.1.2.1, ⟨hk.1.1.2.2.1, hk.1.1.2.2.2.1⟩⟩⟩))⟩, ⟨(fV2 ax.out (fun k_ hk => (⟨hk, hk.2.2.2.2⟩ : _ ∧ k_ ≠ ai)) (fun k_ hk => (⟨hk, hk.1.2.2.2.1⟩ : _ ∧ k_ ≠ ab)) (fun _ hk => ⟨hk.1.1.1, ⟨hk.1.1.2.1, ⟨hk.1.1.2.2.1, hk.1.1.2.2.2.1⟩⟩⟩))⟩, ⟨(fV2 ay.out (fun k_ hk => (⟨hk, hk.2.2.2.2⟩ : _ ∧ k_ ≠ ai)) (fun k_ hk => (⟨hk, hk.1.2.2.2.1⟩ : _ ∧ k_ ≠ ab)) (fun _ hk => ⟨hk.1.1.1, ⟨hk.1.1.2.1, ⟨hk.1.1.2.2.1, hk.1.1.2.2.2.1⟩⟩⟩))⟩, ⟨(fV2 az.out (fun k_ hk => (⟨hk, hk.2.2.2.2⟩ : _ ∧ k_ ≠ ai)) (fun k_ hk => (⟨hk, hk.1.2.2.2.1⟩ : _ ∧ k_ ≠ ab)) (fun _ hk => ⟨hk.1.1.1, ⟨hk.1.1.2.1, ⟨hk.1.1.2.2.1, hk.1.1.2.2.2.1⟩⟩⟩))⟩, ⟨(fV2 ak.out (fun k_ hk => (⟨hk, hk.2.2.2.2⟩ : _ ∧ k_ ≠ ai)) (fun k_ hk => (⟨hk, hk.1.2.2.2.1⟩ : _ ∧ k_ ≠ ab)) (fun _ hk => ⟨hk.1.1.1, ⟨hk.1.1.2.1, ⟨hk.1.1.2.2.1, hk.1.1.2.2.2.1⟩⟩⟩))⟩, ⟨(fV2 al.out (fun k_ hk => (⟨hk, hk.2.2.2.2⟩ : _ ∧ k_ ≠ ai)) (fun k_ hk => (⟨hk, hk.1.2.2.2.1⟩ : _ ∧ k_ ≠ ab)) (fun _ hk => ⟨hk.1.1.1, ⟨hk.1.1.2.1, ⟨hk.1.1.2.2.1, hk.1.1.2.2.2.1⟩⟩⟩))⟩, ⟨(fV2 am.out (fun k_ hk => (⟨hk, hk.2.2.2.2⟩ : _ ∧ k_ ≠ ai)) (fun k_ hk => (⟨hk, hk.1.2.2.2.1⟩ : _ ∧ k_ ≠ ab)) (fun _ hk => ⟨hk.1.1.1, ⟨hk.1.1.2.1, ⟨hk.1.1.2.2.1, hk.1.1.2.2.2.1⟩⟩⟩))⟩, ⟨(fV2 bq.out (fun k_ hk => (⟨hk, hk.2.2.2.2⟩ : _ ∧ k_ ≠ ai)) (fun k_ hk => (⟨hk, hk.1.2.2.2.1⟩ : _ ∧ k_ ≠ ab)) (fun _ hk => ⟨hk.1.1.1, ⟨hk.1.1.2.1, ⟨hk.1.1.2.2.1, hk.1.1.2.2.2.1⟩⟩⟩))⟩, ⟨(fV2 br.out (fun k_ hk => (⟨hk, hk.2.2.2.2⟩ : _ ∧ k_ ≠ ai)) (fun k_ hk => (⟨hk, hk.1.2.2.2.1⟩ : _ ∧ k_ ≠ ab)) (fun _ hk => ⟨hk.1.1.1, ⟨hk.1.1.2.1, ⟨hk.1.1.2.2.1, hk.1.1.2.2.2.1⟩⟩⟩))⟩, ⟨(fV2 bs.out (fun k_ hk => (⟨hk, hk.2.2.2.2⟩ : _ ∧ k_ ≠ ai)) (fun k_ hk => (⟨hk, hk.1.2.2.2.1⟩ : _ ∧ k_ ≠ ab)) (fun _ hk => ⟨hk.1.1.1, ⟨hk.1.1.2.1, ⟨hk.1.1.2.2.1, hk.1.1.2.2.2.1⟩⟩⟩))⟩, ⟨fB2 bm.out be.out ao.out⟩, ⟨fB2 bn.out bf.out aj.out⟩, ⟨by (with_reducible repeat (first | refine qN ?_ _ | refine qD ?_ | refine qA ?_ _)); refine blk_put (cs := #[.int .i64 bz, .slice dn bC.length dp, .slice dX bF.length dY, .slice aZ an.length a8]) ?_ 3 _ rfl; (with_reducible repeat (first | refine qN ?_ _ | refine qD ?_ | refine qA ?_ _)); refine blk_put (cs := #[.int .i64 bz, .slice dn bC.length dp, .slice a9 ap.length ba, .slice aZ an.length a8]) ?_ 2 _ rfl; (with_reducible repeat (first | refine qN ?_ _ | refine qD ?_ | refine qA ?_ _)); refine blk_put (cs := #[.int .i64 bz, .slice bb aq.length bc, .slice a9 ap.length ba, .slice aZ an.length a8]) ?_ 1 _ rfl; (with_reducible repeat (first | refine qN ?_ _ | refine qD ?_ | refine qA ?_ _)); refine blk_put (cs := #[.int .i64 aA, .slice bb aq.length bc, .slice a9 ap.length ba, .slice aZ an.length a8]) ?_ 0 _ rfl; (with_reducible repeat (first | refine qN ?_ _ | refine qD ?_ | refine qA ?_ _)); refine blk_far ?_ aX.out _; (with_reducible repeat (first | refine qN ?_ _ | refine qD ?_ | refine qA ?_ _)); refine blk_far ?_ aX.out _; (with_reducible repeat (first | refine qN ?_ _ | refine qD ?_ | refine qA ?_ _)); refine blk_far ?_ aX.out _; (with_reducible repeat (first | refine qN ?_ _ | refine qD ?_ | refine qA ?_ _)); refine blk_far ?_ aX.out _; (with_reducible repeat (first | refine qN ?_ _ | refine qD ?_ | refine qA ?_ _)); exact aH.out⟩, ⟨by repeat (first | (with_reducible first | exact HB.out | apply pA | apply pN | apply pD | refine pS ?_ aP.out | refine pS ?_ aQ.out | refine pS ?_ aW.out | refine pS ?_ bj.out) | exact HB.out)⟩⟩
       ·rw [if_neg c39] at H
        exact absurd H (by simp)
      ·rw [if_neg c38] at H
       have d7 : decide (aa < (aN.length : Int)) = false := decide_eq_false c38
       clear c38
       replace H := Option.bind_eq_some_iff.mp H
       obtain ⟨⟨bt, bu⟩, d1, H⟩ := H
       replace H : ((gate_Failed.f aA aq ap an aG).bind fun dq => ((gate_Verdict.f k2 ah ac ad ae aG true true aI).bind fun bO => ((gate_Verdict.f k2 aA aq ap an aG true true aI).bind fun bw => (if aY = true then (if bt = dq.1 then (if bu = dq.2 then (if (bO.1 == bw.1) = true then ((portreeveref16_Ops.f k2 bO.2 bw.2).bind fun bo => (some bo)) else (some false)) else (some false)) else (some false)) else (some false))))) = some r := H
       have fk := Aside0.mk d1
       clear d1
       replace H := Option.bind_eq_some_iff.mp H
       obtain ⟨⟨bA, bB⟩, d2, H⟩ := H
       replace H : ((gate_Verdict.f k2 ah ac ad ae aG true true aI).bind fun bO => ((gate_Verdict.f k2 aA aq ap an aG true true aI).bind fun bw => (if aY = true then (if bt = bA then (if bu = bB then (if (bO.1 == bw.1) = true then ((portreeveref16_Ops.f k2 bO.2 bw.2).bind fun bo => (some bo)) else (some false)) else (some false)) else (some false)) else (some false)))) = some r := H
       have fl := Aside0.mk d2
       clear d2
       replace H := Option.bind_eq_some_iff.mp H
       obtain ⟨⟨bp, bU⟩, d3, H⟩ := H
       replace H : ((gate_Verdict.f k2 aA aq ap an aG true true aI).bind fun bw => (if aY = true then (if bt = bA then (if bu = bB then (if (bp == bw.1) = true then ((portreeveref16_Ops.f k2 bU bw.2).bind fun bo => (some bo)) else (some false)) else (some false)) else (some false)) else (some false))) = some r := H
       have fm := Aside0.mk d3
       clear d3
       replace H := Option.bind_eq_some_iff.mp H
       obtain ⟨⟨bv, cB⟩, d4, H⟩ := H
       replace H : (if aY = true then (if bt = bA then (if bu = bB then (if (bp == bv) = true then ((portreeveref16_Ops.f k2 bU cB).bind fun bo => (some bo)) else (some false)) else (some false)) else (some false)) else (some false)) = some r := H
       have fn := Aside0.mk d4
       clear d4
       by_cases c67 : aY = true
       ·subst c67
        have H1 : (if bt = bA then (if bu = bB then (if (bp == bv) = true then ((portreeveref16_Ops.f k2 bU cB).bind fun bo => (some bo)) else (some false)) else (some false)) else (some false)) = some r := by rw [if_pos rfl] at H; exact H
        clear H
        have H := H1
        clear H1
        by_cases c68 : bt = bA
        ·rw [if_pos c68] at H
         have d8 : (bt == bA) = true := beq_iff_eq.mpr c68
         have d9 : (bt != bA) = false := bne_eq_false_iff_eq.mpr c68
         clear c68
         by_cases c69 : bu = bB
         ·rw [if_pos c69] at H
          have ea : (bu == bB) = true := beq_iff_eq.mpr c69
          have eb : (bu != bB) = false := bne_eq_false_iff_eq.mpr c69
          clear c69
          by_cases c70 : (bp == bv) = true
          ·rw [if_pos c70] at H
           have ec : (bp == bv) = true := c70
           (try (have ed : decide (bp = bv) = true := by simpa using c70))
           (try (have ee : (bp == bv) = true := by simpa using c70))
           clear c70
           replace H := Option.bind_eq_some_iff.mp H
           obtain ⟨bo, d5, H⟩ := H
           replace H : (some bo) = some r := H
           have fo := Aside0.mk d5
           clear d5
           clear hlaw_
           obtain rfl := Option.some.inj H
           obtain ⟨gc, gd, er⟩ := Kd.V_slice aS.out
           subst er
           have fS := bl.out
           have fT := bk.out
           have fU := bn.out
           have fW := bE.out
           obtain ⟨eN, eO, eP, eQ, eR, eS, eT, eU⟩ := bk4 aj.out
           go_wp2_with (first | ((with_reducible refine gate_callee (f := 12) rfl ?_); refine goesL_ (some 80) rfl rfl Try.func12 (by kernel_rfl) rfl #[.agg #[.int .i64 ah, .slice ar ac.length au, .slice av ad.length aw, .slice aB ae.length aC], .string aG] rfl (by (try simp only [List.map_toArray, List.map_cons, List.map_nil]); first | done | rfl | (simp only [List.length_drop, List.length_take]; rfl)) ?_; (with_reducible refine (gate_Failed.calls ah _ _ ac _ _ ad _ _ ae aG bt bu _ ?side1 ?side2 ?side3 ?side4 ?side5 ?side6 fk.out).mono ?_); (case side1 => repeat (first | exact (Kd.V_reads' ak.out).2.2 | (with_reducible refine Kd.C_alloc ?_ _) | (with_reducible refine Kd.C_drewN ?_ _) | (with_reducible refine Kd.C_drew ?_))); (case side2 => exact (Kd.V_reads' ak.out).2.1); (case side3 => repeat (first | exact (Kd.V_reads' al.out).2.2 | (with_reducible refine Kd.C_alloc ?_ _) | (with_reducible refine Kd.C_drewN ?_ _) | (with_reducible refine Kd.C_drew ?_))); (case side4 => exact (Kd.V_reads' al.out).2.1); (case side5 => repeat (first | exact (Kd.V_reads' am.out).2.2 | (with_reducible refine Kd.C_alloc ?_ _) | (with_reducible refine Kd.C_drewN ?_ _) | (with_reducible refine Kd.C_drew ?_))); (case side6 => exact (Kd.V_reads' am.out).2.1); rintro e w76 ⟨rfl, hb⟩; refine ⟨_, rfl, ?_⟩; have n0_ := Aside0.mk (Kd.V_below (zV aS.out) hb); have n1_ := Aside0.mk (Kd.V_below (zV ax.out) hb); have n2_ := Aside0.mk (Kd.V_below (zV ay.out) hb); have n3_ := Aside0.mk (Kd.V_below (zV az.out) hb); have n4_ := Aside0.mk (Kd.V_below (zV ak.out) hb); have n5_ := Aside0.mk (Kd.V_below (zV al.out) hb); have n6_ := Aside0.mk (Kd.V_below (zV am.out) hb); have n7_ := Aside0.mk (Kd.V_below (zV aD.out) hb); have n8_ := Aside0.mk (Kd.V_below (zV aE.out) hb); have n9_ := Aside0.mk (Kd.V_below (zV aF.out) hb); have n10_ := Aside0.mk (blk_below (g := af) (o := .cells #[.int .i64 ah, .slice ar ac.length au, .slice av ad.length aw, .slice aB ae.length aC, .string aM, .string aG, .bool aR, .int .i64 aI] 52 (0, 0)) (zB ao.out) hb); have n11_ := Aside0.mk (blk_below (g := ag) (o := .cells #[.int .i64 ah, .slice ar ac.length au, .slice av ad.length aw, .slice aB ae.length aC] 26 (0, 0)) (zB aj.out) hb); have n12_ := Aside0.mk (blk_below (g := ab) (o := .cells #[.int .i64 aA, u425001, u425002, u425003] 26 (0, 0)) (zB aH.out) hb); have n13_ := Aside0.mk (below_step (by repeat (first | (with_reducible first | exact HB.out | apply pA | apply pN | apply pD | refine pS ?_ aP.out | refine pS ?_ aQ.out | refine pS ?_ aW.out) | exact HB.out)) hb); clear aS; clear ax; clear ay; clear az; clear ak; clear al; clear am; clear aD; clear aE; clear aF; clear ao; clear aj; clear aH; clear HB; have aS := n0_; have ax := n1_; have ay := n2_; have az := n3_; have ak := n4_; have al := n5_; have am := n6_; have aD := n7_; have aE := n8_; have aF := n9_; have ao := n10_; have aj := n11_; have aH := n12_; have HB := n13_; clear n0_ n1_ n2_ n3_ n4_ n5_ n6_ n7_ n8_ n9_ n10_ n11_ n12_ n13_; (try clear hb); (try clear hb2); (try clear hk); (try clear hi); have fX := bD.out; have fY := bm.out; obtain ⟨eV, eW, eX, eY, eZ, e0, e1, e2⟩ := bk4 aH.out; obtain ⟨bI, bJ, es⟩ := Kd.V_slice aD.out; subst es; obtain ⟨bK, bL, et⟩ := Kd.V_slice aE.out; subst et; obtain ⟨bM, bN, eu⟩ := Kd.V_slice aF.out; subst eu) | ((with_reducible refine gate_callee (f := 12) rfl ?_); refine goesL_ (some 86) rfl rfl Try.func12 (by kernel_rfl) rfl #[.agg #[.int .i64 aA, .slice bI aq.length bJ, .slice bK ap.length bL, .slice bM an.length bN], .string aG] rfl (by (try simp only [List.map_toArray, List.map_cons, List.map_nil]); first | done | rfl | (simp only [List.length_drop, List.length_take]; rfl)) ?_; (with_reducible refine (gate_Failed.calls aA _ _ aq _ _ ap _ _ an aG bA bB _ ?side1 ?side2 ?side3 ?side4 ?side5 ?side6 fl.out).mono ?_); (case side1 => repeat (first | exact (Kd.V_reads' aD.out).2.2 | (with_reducible refine Kd.C_alloc ?_ _) | (with_reducible refine Kd.C_drewN ?_ _) | (with_reducible refine Kd.C_drew ?_))); (case side2 => exact (Kd.V_reads' aD.out).2.1); (case side3 => repeat (first | exact (Kd.V_reads' aE.out).2.2 | (with_reducible refine Kd.C_alloc ?_ _) | (with_reducible refine Kd.C_drewN ?_ _) | (with_reducible refine Kd.C_drew ?_))); (case side4 => exact (Kd.V_reads' aE.out).2.1); (case side5 => repeat (first | exact (Kd.V_reads' aF.out).2.2 | (with_reducible refine Kd.C_alloc ?_ _) | (with_reducible refine Kd.C_drewN ?_ _) | (with_reducible refine Kd.C_drew ?_))); (case side6 => exact (Kd.V_reads' aF.out).2.1); rintro e w82 ⟨rfl, hb⟩; refine ⟨_, rfl, ?_⟩; have n0_ := Aside0.mk (Kd.V_below (zV aS.out) hb); have n1_ := Aside0.mk (Kd.V_below (zV ax.out) hb); have n2_ := Aside0.mk (Kd.V_below (zV ay.out) hb); have n3_ := Aside0.mk (Kd.V_below (zV az.out) hb); have n4_ := Aside0.mk (Kd.V_below (zV ak.out) hb); have n5_ := Aside0.mk (Kd.V_below (zV al.out) hb); have n6_ := Aside0.mk (Kd.V_below (zV am.out) hb); have n7_ := Aside0.mk (Kd.V_below (zV aD.out) hb); have n8_ := Aside0.mk (Kd.V_below (zV aE.out) hb); have n9_ := Aside0.mk (Kd.V_below (zV aF.out) hb); have n10_ := Aside0.mk (blk_below (g := af) (o := .cells #[.int .i64 ah, .slice ar ac.length au, .slice av ad.length aw, .slice aB ae.length aC, .string aM, .string aG, .bool aR, .int .i64 aI] 52 (0, 0)) (zB ao.out) hb); have n11_ := Aside0.mk (blk_below (g := ag) (o := .cells #[.int .i64 ah, .slice ar ac.length au, .slice av ad.length aw, .slice aB ae.length aC] 26 (0, 0)) (zB aj.out) hb); have n12_ := Aside0.mk (blk_below (g := ab) (o := .cells #[.int .i64 aA, .slice bI aq.length bJ, .slice bK ap.length bL, .slice bM an.length bN] 26 (0, 0)) (zB aH.out) hb); have n13_ := Aside0.mk (below_step (by repeat (first | (with_reducible first | exact HB.out | apply pA | apply pN | apply pD | refine pS ?_ aP.out | refine pS ?_ aQ.out | refine pS ?_ aW.out) | exact HB.out)) hb); clear aS; clear ax; clear ay; clear az; clear ak; clear al; clear am; clear aD; clear aE; clear aF; clear ao; clear aj; clear aH; clear HB; have aS := n0_; have ax := n1_; have ay := n2_; have az := n3_; have ak := n4_; have al := n5_; have am := n6_; have aD := n7_; have aE := n8_; have aF := n9_; have ao := n10_; have aj := n11_; have aH := n12_; have HB := n13_; clear n0_ n1_ n2_ n3_ n4_ n5_ n6_ n7_ n8_ n9_ n10_ n11_ n12_ n13_; (try clear hb); (try clear hb2); (try clear hk); (try clear hi); obtain ⟨e3, e4, e5, e6, e7, e8, e9, fa⟩ := bk4 aj.out) | ((with_reducible refine gate_callee (f := 11) rfl ?_); refine goesL_ (some 93) rfl rfl Try.func11 (by kernel_rfl) rfl #[.agg #[.int .i64 ah, .slice ar ac.length au, .slice av ad.length aw, .slice aB ae.length aC], .string aG, .bool true, .bool true, .int .i64 aI] rfl (by (try simp only [List.map_toArray, List.map_cons, List.map_nil]); first | done | rfl | (simp only [List.length_drop, List.length_take]; rfl)) ?_; (with_reducible refine (gate_Verdict.calls k2 ah _ _ ac _ _ ad _ _ ae aG true true aI bp bU _ ?side1 ?side2 ?side3 ?side4 ?side5 ?side6 fm.out).mono ?_); (case side1 => repeat (first | exact (Kd.V_reads' ak.out).2.2 | (with_reducible refine Kd.C_alloc ?_ _) | (with_reducible refine Kd.C_drewN ?_ _) | (with_reducible refine Kd.C_drew ?_))); (case side2 => exact (Kd.V_reads' ak.out).2.1); (case side3 => repeat (first | exact (Kd.V_reads' al.out).2.2 | (with_reducible refine Kd.C_alloc ?_ _) | (with_reducible refine Kd.C_drewN ?_ _) | (with_reducible refine Kd.C_drew ?_))); (case side4 => exact (Kd.V_reads' al.out).2.1); (case side5 => repeat (first | exact (Kd.V_reads' am.out).2.2 | (with_reducible refine Kd.C_alloc ?_ _) | (with_reducible refine Kd.C_drewN ?_ _) | (with_reducible refine Kd.C_drew ?_))); (case side6 => exact (Kd.V_reads' am.out).2.1); rintro e w84 ⟨v444, rfl, ho0, hb⟩; refine ⟨_, rfl, ?_⟩; have n0_ := Aside0.mk (Kd.V_below (zV aS.out) hb); have n1_ := Aside0.mk (Kd.V_below (zV ax.out) hb); have n2_ := Aside0.mk (Kd.V_below (zV ay.out) hb); have n3_ := Aside0.mk (Kd.V_below (zV az.out) hb); have n4_ := Aside0.mk (Kd.V_below (zV ak.out) hb); have n5_ := Aside0.mk (Kd.V_below (zV al.out) hb); have n6_ := Aside0.mk (Kd.V_below (zV am.out) hb); have n7_ := Aside0.mk (Kd.V_below (zV aD.out) hb); have n8_ := Aside0.mk (Kd.V_below (zV aE.out) hb); have n9_ := Aside0.mk (Kd.V_below (zV aF.out) hb); have n10_ := Aside0.mk (Kd.V_lower (Kd.V_mono (ok' := fun k_ => ((aJ k_ ∨ aK k_ ∨ aL k_) ∨ w.heap.size ≤ k_) ∧ k_ ≠ af ∧ k_ ≠ ag ∧ k_ ≠ ab) ho0 (fun k_ hk_ => ⟨(.inr (Nat.le_trans (below_size (by repeat (first | (with_reducible first | exact HB.out | apply pA | apply pN | apply pD | refine pS ?_ aP.out | refine pS ?_ aQ.out | refine pS ?_ aW.out) | exact HB.out))) hk_)), (Kd.freshB (g := af) (o := .cells #[.int .i64 ah, .slice ar ac.length au, .slice av ad.length aw, .slice aB ae.length aC, .string aM, .string aG, .bool aR, .int .i64 aI] 52 (0, 0)) (zB ao.out) k_ hk_), (Kd.freshB (g := ag) (o := .cells #[.int .i64 ah, .slice ar ac.length au, .slice av ad.length aw, .slice aB ae.length aC] 26 (0, 0)) (zB aj.out) k_ hk_), (Kd.freshB (g := ab) (o := .cells #[.int .i64 aA, .slice bI aq.length bJ, .slice bK ap.length bL, .slice bM an.length bN] 26 (0, 0)) (zB aH.out) k_ hk_)⟩)) (below_size (by repeat (first | (with_reducible first | exact HB.out | apply pA | apply pN | apply pD | refine pS ?_ aP.out | refine pS ?_ aQ.out | refine pS ?_ aW.out) | exact HB.out)))); have n11_ := Aside0.mk (blk_below (g := af) (o := .cells #[.int .i64 ah, .slice ar ac.length au, .slice av ad.length aw, .slice aB ae.length aC, .string aM, .string aG, .bool aR, .int .i64 aI] 52 (0, 0)) (zB ao.out) hb); have n12_ := Aside0.mk (blk_below (g := ag) (o := .cells #[.int .i64 ah, .slice ar ac.length au, .slice av ad.length aw, .slice aB ae.length aC] 26 (0, 0)) (zB aj.out) hb); have n13_ := Aside0.mk (blk_below (g := ab) (o := .cells #[.int .i64 aA, .slice bI aq.length bJ, .slice bK ap.length bL, .slice bM an.length bN] 26 (0, 0)) (zB aH.out) hb); have n14_ := Aside0.mk (below_step (by repeat (first | (with_reducible first | exact HB.out | apply pA | apply pN | apply pD | refine pS ?_ aP.out | refine pS ?_ aQ.out | refine pS ?_ aW.out) | exact HB.out)) hb); clear aS; clear ax; clear ay; clear az; clear ak; clear al; clear am; clear aD; clear aE; clear aF; clear ao; clear aj; clear aH; clear HB; have aS := n0_; have ax := n1_; have ay := n2_; have az := n3_; have ak := n4_; have al := n5_; have am := n6_; have aD := n7_; have aE := n8_; have aF := n9_; have bG := n10_; have ao := n11_; have aj := n12_; have aH := n13_; have HB := n14_; clear n0_ n1_ n2_ n3_ n4_ n5_ n6_ n7_ n8_ n9_ n10_ n11_ n12_ n13_ n14_; (try clear hb); (try clear hb2); (try clear hk); (try clear hi); (try clear ho0); obtain ⟨fb, fc, fd, fe, ff, fg, fh, fi⟩ := bk4 aH.out) | ((with_reducible refine gate_callee (f := 11) rfl ?_); refine goesL_ (some 100) rfl rfl Try.func11 (by kernel_rfl) rfl #[.agg #[.int .i64 aA, .slice bI aq.length bJ, .slice bK ap.length bL, .slice bM an.length bN], .string aG, .bool true, .bool true, .int .i64 aI] rfl (by (try simp only [List.map_toArray, List.map_cons, List.map_nil]); first | done | rfl | (simp only [List.length_drop, List.length_take]; rfl)) ?_; (with_reducible refine (gate_Verdict.calls k2 aA _ _ aq _ _ ap _ _ an aG true true aI bv cB _ ?side1 ?side2 ?side3 ?side4 ?side5 ?side6 fn.out).mono ?_); (case side1 => repeat (first | exact (Kd.V_reads' aD.out).2.2 | (with_reducible refine Kd.C_alloc ?_ _) | (with_reducible refine Kd.C_drewN ?_ _) | (with_reducible refine Kd.C_drew ?_))); (case side2 => exact (Kd.V_reads' aD.out).2.1); (case side3 => repeat (first | exact (Kd.V_reads' aE.out).2.2 | (with_reducible refine Kd.C_alloc ?_ _) | (with_reducible refine Kd.C_drewN ?_ _) | (with_reducible refine Kd.C_drew ?_))); (case side4 => exact (Kd.V_reads' aE.out).2.1); (case side5 => repeat (first | exact (Kd.V_reads' aF.out).2.2 | (with_reducible refine Kd.C_alloc ?_ _) | (with_reducible refine Kd.C_drewN ?_ _) | (with_reducible refine Kd.C_drew ?_))); (case side6 => exact (Kd.V_reads' aF.out).2.1); rintro e w86 ⟨v448, rfl, ho0, hb⟩; refine ⟨_, rfl, ?_⟩; have n0_ := Aside0.mk (Kd.V_below (zV aS.out) hb); have n1_ := Aside0.mk (Kd.V_below (zV ax.out) hb); have n2_ := Aside0.mk (Kd.V_below (zV ay.out) hb); have n3_ := Aside0.mk (Kd.V_below (zV az.out) hb); have n4_ := Aside0.mk (Kd.V_below (zV ak.out) hb); have n5_ := Aside0.mk (Kd.V_below (zV al.out) hb); have n6_ := Aside0.mk (Kd.V_below (zV am.out) hb); have n7_ := Aside0.mk (Kd.V_below (zV aD.out) hb); have n8_ := Aside0.mk (Kd.V_below (zV aE.out) hb); have n9_ := Aside0.mk (Kd.V_below (zV aF.out) hb); have n10_ := Aside0.mk (Kd.V_below (zV bG.out) hb); have n11_ := Aside0.mk (Kd.V_lower (Kd.V_mono (ok' := fun k_ => ((aJ k_ ∨ aK k_ ∨ aL k_) ∨ w.heap.size ≤ k_) ∧ k_ ≠ af ∧ k_ ≠ ag ∧ k_ ≠ ab) ho0 (fun k_ hk_ => ⟨(.inr (Nat.le_trans (below_size (by repeat (first | (with_reducible first | exact HB.out | apply pA | apply pN | apply pD | refine pS ?_ aP.out | refine pS ?_ aQ.out | refine pS ?_ aW.out) | exact HB.out))) hk_)), (Kd.freshB (g := af) (o := .cells #[.int .i64 ah, .slice ar ac.length au, .slice av ad.length aw, .slice aB ae.length aC, .string aM, .string aG, .bool aR, .int .i64 aI] 52 (0, 0)) (zB ao.out) k_ hk_), (Kd.freshB (g := ag) (o := .cells #[.int .i64 ah, .slice ar ac.length au, .slice av ad.length aw, .slice aB ae.length aC] 26 (0, 0)) (zB aj.out) k_ hk_), (Kd.freshB (g := ab) (o := .cells #[.int .i64 aA, .slice bI aq.length bJ, .slice bK ap.length bL, .slice bM an.length bN] 26 (0, 0)) (zB aH.out) k_ hk_)⟩)) (below_size (by repeat (first | (with_reducible first | exact HB.out | apply pA | apply pN | apply pD | refine pS ?_ aP.out | refine pS ?_ aQ.out | refine pS ?_ aW.out) | exact HB.out)))); have n12_ := Aside0.mk (blk_below (g := af) (o := .cells #[.int .i64 ah, .slice ar ac.length au, .slice av ad.length aw, .slice aB ae.length aC, .string aM, .string aG, .bool aR, .int .i64 aI] 52 (0, 0)) (zB ao.out) hb); have n13_ := Aside0.mk (blk_below (g := ag) (o := .cells #[.int .i64 ah, .slice ar ac.length au, .slice av ad.length aw, .slice aB ae.length aC] 26 (0, 0)) (zB aj.out) hb); have n14_ := Aside0.mk (blk_below (g := ab) (o := .cells #[.int .i64 aA, .slice bI aq.length bJ, .slice bK ap.length bL, .slice bM an.length bN] 26 (0, 0)) (zB aH.out) hb); have n15_ := Aside0.mk (below_step (by repeat (first | (with_reducible first | exact HB.out | apply pA | apply pN | apply pD | refine pS ?_ aP.out | refine pS ?_ aQ.out | refine pS ?_ aW.out) | exact HB.out)) hb); clear aS; clear ax; clear ay; clear az; clear ak; clear al; clear am; clear aD; clear aE; clear aF; clear bG; clear ao; clear aj; clear aH; clear HB; have aS := n0_; have ax := n1_; have ay := n2_; have az := n3_; have ak := n4_; have al := n5_; have am := n6_; have aD := n7_; have aE := n8_; have aF := n9_; have bG := n10_; have cC := n11_; have ao := n12_; have aj := n13_; have aH := n14_; have HB := n15_; clear n0_ n1_ n2_ n3_ n4_ n5_ n6_ n7_ n8_ n9_ n10_ n11_ n12_ n13_ n14_ n15_; (try clear hb); (try clear hb2); (try clear hk); (try clear hi); (try clear ho0); obtain ⟨ge, gf, ev⟩ := Kd.V_slice bG.out; subst ev; obtain ⟨gg, gh, ew⟩ := Kd.V_slice cC.out; subst ew) | (go_at_call 16; (with_reducible refine (portreeveref16_Ops.calls k2 _ _ bU _ _ cB bo _ ?side1 ?side2 ?side3 ?side4 fo.out).mono ?_); (case side1 => repeat (first | exact (Kd.V_reads' bG.out).2.2 | (with_reducible refine Kd.C_alloc ?_ _) | (with_reducible refine Kd.C_drewN ?_ _) | (with_reducible refine Kd.C_drew ?_))); (case side2 => exact (Kd.V_reads' bG.out).2.1); (case side3 => repeat (first | exact (Kd.V_reads' cC.out).2.2 | (with_reducible refine Kd.C_alloc ?_ _) | (with_reducible refine Kd.C_drewN ?_ _) | (with_reducible refine Kd.C_drew ?_))); (case side4 => exact (Kd.V_reads' cC.out).2.1); rintro e w' ⟨rfl, ⟨nd, rfl⟩⟩))
           go_ret
           exact ⟨by first | rfl | (simp [errW_none, errW_some] <;> rfl) | (simp [*, errW_none, errW_some] <;> rfl), by repeat (first | (with_reducible first | exact HB.out | apply pA | apply pN | apply pD | refine pS ?_ aP.out | refine pS ?_ aQ.out | refine pS ?_ aW.out) | exact HB.out)⟩
          ·rw [if_neg c70] at H
           have ec : (bp == bv) = false := by simpa using c70
           (try (have ed : decide (bp = bv) = false := by simpa using c70))
           (try (have ee : (bp == bv) = false := by simpa using c70))
           (try (have fZ : ¬ (bp = bv) := by simpa using c70))
           clear c70
           exact absurd ((Option.some.inj H).trans hlaw_.out) (by decide)
         ·rw [if_neg c69] at H
          have ea : (bu == bB) = false := beq_eq_false_iff_ne.mpr c69
          have eb : (bu != bB) = true := bne_iff_ne.mpr c69
          exact absurd ((Option.some.inj H).trans hlaw_.out) (by decide)
        ·rw [if_neg c68] at H
         have d8 : (bt == bA) = false := beq_eq_false_iff_ne.mpr c68
         have d9 : (bt != bA) = true := bne_iff_ne.mpr c68
         exact absurd ((Option.some.inj H).trans hlaw_.out) (by decide)
       ·replace c67 := Bool.eq_false_iff.mpr c67
        subst c67
        have H1 : (some false) = some r := by rw [if_neg (show ¬ (false = true) by decide)] at H; exact H
        clear H
        have H := H1
        clear H1
        exact absurd ((Option.some.inj H).trans hlaw_.out) (by decide)

end Go.Proofs.Ytocjadhpaecpaaa.Q

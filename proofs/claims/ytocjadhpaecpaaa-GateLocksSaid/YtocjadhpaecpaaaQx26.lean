-- written by this session's own program (wip/tools/myprint.py), over the kit's print
import Derived.Test.YtocjadhpaecpaaaQx0
import Derived.Test.YtocjadhpaecpaaaQx6
import Derived.Test.YtocjadhpaecpaaaQx7
import Derived.Test.YtocjadhpaecpaaaQx10
import Derived.Test.YtocjadhpaecpaaaQx11
import Derived.Test.YtocjadhpaecpaaaQx18
import Derived.Test.YtocjadhpaecpaaaQx24
namespace Go.Proofs.Ytocjadhpaecpaaa.Q
open Go.RowKit Go.Proofs.YtocjadhpaecpaaaW.PrintWords Go.Proofs.YtocjadhpaecpaaaW.PrintLast Go.Proofs.YtocjadhpaecpaaaW.PrintMore
open Go.Proofs.YtocjadhpaecpaaaV
attribute [local go_sem] max2_int min2_int max_two min_two max_three min_three max_four min_four   -- for this text's walks alone
set_option linter.unusedVariables false
set_option linter.unusedSimpArgs false

/-! ### portreevelaw16_GateLocks: function 4 -/
mutual
def portreevelaw16_GateLocks.j0 : Nat → ByteArray → Int → Int → Bool → Bool → Int → List (S76) → List (S72) → List (S64) → Option (Bool)
 | 0, _, _, _, _, _, _, _, _, _ => none
 | k + 1, x4, x5, x6, x7, x37, x375000, x375001, x375002, x375003 => if x37 = true then (some x7) else (portreevelaw16_GateLocks.l0 k x4 x5 x6 x7 0 x375000 x375001 x375002 x375003)
def portreevelaw16_GateLocks.l0 : Nat → ByteArray → Int → Int → Bool → Int → Int → List (S76) → List (S72) → List (S64) → Option (Bool)
 | 0, _, _, _, _, _, _, _, _, _ => none
 | k + 1, x4, x5, x6, x7, x8, x375000, x375001, x375002, x375003 => if x8 < 3 then ((gate_Verdict.f k x375000 x375001 x375002 x375003 x4 true false x5).bind fun bt377 => (portreevelaw16_GateLocks.l1 k x4 x5 x6 x7 x8 bt377.2 0 x375000 x375001 x375002 x375003)) else ((gate_Failed.f x375000 x375001 x375002 x375003 x4).bind fun bt394 => ((gate_Until.f x375000 x375001 x375002 x375003 x4).bind fun t396 => ((gate_Verdict.f k x375000 x375001 x375002 x375003 x4 true true (wrap64 (x5 + (wrap64 (x6))))).bind fun bt397 => (if x7 = true then (if bt394.1 ≥ 3 then (if t396 = (wrap64 (bt394.2 + 20)) then (if (bt397.1 == (decide ((wrap64 (x5 + (wrap64 (x6)))) ≥ t396))) = true then ((gate_Locked.f x375000 x375001 x375002 x375003 x4 (wrap64 (x5 + (wrap64 (x6))))).bind fun t401 => (some (t401 == (decide ((wrap64 (x5 + (wrap64 (x6)))) < t396))))) else (some false)) else (some false)) else (some false)) else (some false)))))
def portreevelaw16_GateLocks.l1 : Nat → ByteArray → Int → Int → Bool → Int → List (S41) → Int → Int → List (S76) → List (S72) → List (S64) → Option (Bool)
 | 0, _, _, _, _, _, _, _, _, _, _, _ => none
 | k + 1, x4, x5, x6, x7, x8, x10, x11, x375000, x375001, x375002, x375003 => if x11 < (x10.length : Int) then (if 0 ≤ x11 then ((portreeveref04_Apply.f k x375000 x375001 x375002 x375003 ((rd_T41 x10 x11).f0) ((rd_T41 x10 x11).f1) ((rd_T41 x10 x11).f2) ((rd_T41 x10 x11).f3) ((rd_T41 x10 x11).f4) ((rd_T41 x10 x11).f5) ((rd_T41 x10 x11).f6) ((rd_T41 x10 x11).f7) ((rd_T41 x10 x11).f8)).bind fun bt382 => (if bt382.2.2.2.2 = 0 then (portreevelaw16_GateLocks.l1 k x4 x5 x6 x7 x8 x10 (wrap64 (x11 + 1)) bt382.1 bt382.2.1 bt382.2.2.1 bt382.2.2.2.1) else (if x7 = true then (some ((x375003.length : Int) == 8)) else (some false)))) else (none)) else (portreevelaw16_GateLocks.l0 k x4 x5 x6 x7 (wrap64 (x8 + 1)) x375000 x375001 x375002 x375003)
end
def portreevelaw16_GateLocks.f (k : Nat) (a0_0 : Int) (l0_1 : List (S76)) (l0_2 : List (S72)) (l0_3 : List (S64)) (a0_4 : ByteArray) (a0_5 : Int) (a0_6 : Int) : Option (Bool) := (portreevelaw16_shown.f k).bind fun t375 => ((portreevelaw16_may.f k a0_0 l0_1 l0_2 l0_3 a0_4 a0_5).bind fun t376 => (if t376 = true then (portreevelaw16_GateLocks.j0 k a0_4 a0_5 a0_6 t375 (decide (a0_5 > 999999700)) a0_0 l0_1 l0_2 l0_3) else (portreevelaw16_GateLocks.j0 k a0_4 a0_5 a0_6 t375 true a0_0 l0_1 l0_2 l0_3)))
theorem portreevelaw16_GateLocks.mono_l : ∀ k, (∀ y0 y1 y2 y3 y4 y5 y6 y7 y8, LeO (portreevelaw16_GateLocks.j0 k y0 y1 y2 y3 y4 y5 y6 y7 y8) (portreevelaw16_GateLocks.j0 (k + 1) y0 y1 y2 y3 y4 y5 y6 y7 y8)) ∧ (∀ y0 y1 y2 y3 y4 y5 y6 y7 y8, LeO (portreevelaw16_GateLocks.l0 k y0 y1 y2 y3 y4 y5 y6 y7 y8) (portreevelaw16_GateLocks.l0 (k + 1) y0 y1 y2 y3 y4 y5 y6 y7 y8)) ∧ (∀ y0 y1 y2 y3 y4 y5 y6 y7 y8 y9 y10, LeO (portreevelaw16_GateLocks.l1 k y0 y1 y2 y3 y4 y5 y6 y7 y8 y9 y10) (portreevelaw16_GateLocks.l1 (k + 1) y0 y1 y2 y3 y4 y5 y6 y7 y8 y9 y10))
 | 0 => ⟨fun _ _ _ _ _ _ _ _ _ r h => by simp [portreevelaw16_GateLocks.j0] at h, fun _ _ _ _ _ _ _ _ _ r h => by simp [portreevelaw16_GateLocks.l0] at h, fun _ _ _ _ _ _ _ _ _ _ _ r h => by simp [portreevelaw16_GateLocks.l1] at h⟩
 | k + 1 => by
  obtain ⟨ih0, ih1, ih2⟩ := portreevelaw16_GateLocks.mono_l k
  refine ⟨?_, ?_, ?_⟩
  ·intro y0 y1 y2 y3 y4 y5 y6 y7 y8
   unfold portreevelaw16_GateLocks.j0
   repeat' first
   | (with_reducible exact ih0 _ _ _ _ _ _ _ _ _)
   | (with_reducible exact ih1 _ _ _ _ _ _ _ _ _)
   | (with_reducible exact ih2 _ _ _ _ _ _ _ _ _ _ _)
   | (with_reducible exact gate_Verdict.mono _ _ _ _ _ _ _ _ _)
   | (with_reducible exact portreevelaw16_may.mono _ _ _ _ _ _ _)
   | (with_reducible exact portreevelaw16_shown.mono _)
   | (with_reducible exact portreeveref04_Apply.mono _ _ _ _ _ _ _ _ _ _ _ _ _ _)
   | (with_reducible exact LeO.refl _)
   | (with_reducible exact LeO.none _)
   | (with_reducible refine LeO.ite ?_ ?_)
   | (with_reducible refine LeO.bind ?_ (fun _ => ?_))
   | exact ih0 _ _ _ _ _ _ _ _ _
   | exact ih1 _ _ _ _ _ _ _ _ _
   | exact ih2 _ _ _ _ _ _ _ _ _ _ _
   | exact gate_Verdict.mono _ _ _ _ _ _ _ _ _
   | exact portreevelaw16_may.mono _ _ _ _ _ _ _
   | exact portreevelaw16_shown.mono _
   | exact portreeveref04_Apply.mono _ _ _ _ _ _ _ _ _ _ _ _ _ _
   | exact LeO.none _
   | refine LeO.ite ?_ ?_
   | refine LeO.bind ?_ (fun _ => ?_)
  ·intro y0 y1 y2 y3 y4 y5 y6 y7 y8
   unfold portreevelaw16_GateLocks.l0
   repeat' first
   | (with_reducible exact ih0 _ _ _ _ _ _ _ _ _)
   | (with_reducible exact ih1 _ _ _ _ _ _ _ _ _)
   | (with_reducible exact ih2 _ _ _ _ _ _ _ _ _ _ _)
   | (with_reducible exact gate_Verdict.mono _ _ _ _ _ _ _ _ _)
   | (with_reducible exact portreevelaw16_may.mono _ _ _ _ _ _ _)
   | (with_reducible exact portreevelaw16_shown.mono _)
   | (with_reducible exact portreeveref04_Apply.mono _ _ _ _ _ _ _ _ _ _ _ _ _ _)
   | (with_reducible exact LeO.refl _)
   | (with_reducible exact LeO.none _)
   | (with_reducible refine LeO.ite ?_ ?_)
   | (with_reducible refine LeO.bind ?_ (fun _ => ?_))
   | exact ih0 _ _ _ _ _ _ _ _ _
   | exact ih1 _ _ _ _ _ _ _ _ _
   | exact ih2 _ _ _ _ _ _ _ _ _ _ _
   | exact gate_Verdict.mono _ _ _ _ _ _ _ _ _
   | exact portreevelaw16_may.mono _ _ _ _ _ _ _
   | exact portreevelaw16_shown.mono _
   | exact portreeveref04_Apply.mono _ _ _ _ _ _ _ _ _ _ _ _ _ _
   | exact LeO.none _
   | refine LeO.ite ?_ ?_
   | refine LeO.bind ?_ (fun _ => ?_)
  ·intro y0 y1 y2 y3 y4 y5 y6 y7 y8 y9 y10
   unfold portreevelaw16_GateLocks.l1
   repeat' first
   | (with_reducible exact ih0 _ _ _ _ _ _ _ _ _)
   | (with_reducible exact ih1 _ _ _ _ _ _ _ _ _)
   | (with_reducible exact ih2 _ _ _ _ _ _ _ _ _ _ _)
   | (with_reducible exact gate_Verdict.mono _ _ _ _ _ _ _ _ _)
   | (with_reducible exact portreevelaw16_may.mono _ _ _ _ _ _ _)
   | (with_reducible exact portreevelaw16_shown.mono _)
   | (with_reducible exact portreeveref04_Apply.mono _ _ _ _ _ _ _ _ _ _ _ _ _ _)
   | (with_reducible exact LeO.refl _)
   | (with_reducible exact LeO.none _)
   | (with_reducible refine LeO.ite ?_ ?_)
   | (with_reducible refine LeO.bind ?_ (fun _ => ?_))
   | exact ih0 _ _ _ _ _ _ _ _ _
   | exact ih1 _ _ _ _ _ _ _ _ _
   | exact ih2 _ _ _ _ _ _ _ _ _ _ _
   | exact gate_Verdict.mono _ _ _ _ _ _ _ _ _
   | exact portreevelaw16_may.mono _ _ _ _ _ _ _
   | exact portreevelaw16_shown.mono _
   | exact portreeveref04_Apply.mono _ _ _ _ _ _ _ _ _ _ _ _ _ _
   | exact LeO.none _
   | refine LeO.ite ?_ ?_
   | refine LeO.bind ?_ (fun _ => ?_)
theorem portreevelaw16_GateLocks.mono : ∀ a0 a1 a2 a3 a4 a5 a6 k, LeO (portreevelaw16_GateLocks.f k a0 a1 a2 a3 a4 a5 a6) (portreevelaw16_GateLocks.f (k + 1) a0 a1 a2 a3 a4 a5 a6) := by
 intro a0 a1 a2 a3 a4 a5 a6 k
 obtain ⟨ih0, ih1, ih2⟩ := portreevelaw16_GateLocks.mono_l k
 unfold portreevelaw16_GateLocks.f
 repeat' first
   | (with_reducible exact ih0 _ _ _ _ _ _ _ _ _)
   | (with_reducible exact ih1 _ _ _ _ _ _ _ _ _)
   | (with_reducible exact ih2 _ _ _ _ _ _ _ _ _ _ _)
   | (with_reducible exact gate_Verdict.mono _ _ _ _ _ _ _ _ _)
   | (with_reducible exact portreevelaw16_may.mono _ _ _ _ _ _ _)
   | (with_reducible exact portreevelaw16_shown.mono _)
   | (with_reducible exact portreeveref04_Apply.mono _ _ _ _ _ _ _ _ _ _ _ _ _ _)
   | (with_reducible exact LeO.refl _)
   | (with_reducible exact LeO.none _)
   | (with_reducible refine LeO.ite ?_ ?_)
   | (with_reducible refine LeO.bind ?_ (fun _ => ?_))
   | exact ih0 _ _ _ _ _ _ _ _ _
   | exact ih1 _ _ _ _ _ _ _ _ _
   | exact ih2 _ _ _ _ _ _ _ _ _ _ _
   | exact gate_Verdict.mono _ _ _ _ _ _ _ _ _
   | exact portreevelaw16_may.mono _ _ _ _ _ _ _
   | exact portreevelaw16_shown.mono _
   | exact portreeveref04_Apply.mono _ _ _ _ _ _ _ _ _ _ _ _ _ _
   | exact LeO.none _
   | refine LeO.ite ?_ ?_
   | refine LeO.bind ?_ (fun _ => ?_)
def portreevelaw16_GateLocks.T15 : Bool × List (List Nat × List Nat) := (true, [([], []), ([], []), ([], []), ([1, 2], [1, 2]), ([3], [3]), ([0, 4], [0, 4]), ([5], [5]), ([6], [6]), ([6], [6]), ([], []), ([9, 7, 5, 0, 1, 2, 3, 4, 5, 6, 7, 9], [7, 9]), ([8, 10, 0, 1, 2, 3, 4, 5, 6, 7, 8, 9, 10], [8])])
def portreevelaw16_GateLocks.B15 : List Nat := [0, 0, 0, 6, 14, 31, 63, 127, 127, 0, 767, 2047]
theorem portreevelaw16_GateLocks.tab15 : rtab .any (opsOf Try.f4 15) = portreevelaw16_GateLocks.T15 := by kernel_rfl
theorem portreevelaw16_GateLocks.bits15 : waitsOk portreevelaw16_GateLocks.T15.2 portreevelaw16_GateLocks.B15 = true := by kernel_rfl
set_option maxHeartbeats 8000000 in
set_option maxRecDepth 100000 in
theorem portreevelaw16_GateLocks.calls (k : Nat) (aG : Int) (au : Nat → Prop) (aI : Option Addr) (aJ : Nat) (ay : List (S76)) (av : Nat → Prop) (aK : Option Addr) (aL : Nat) (az : List (S72)) (aw : Nat → Prop) (aM : Option Addr) (aN : Nat) (aA : List (S64)) (aC : ByteArray) (ax : Int) (aB : Int) (r : Bool) (w : World) (hlaw_ : Aside0 (r = true)) (hs0_1 : Kd.V k76 76 w w.heap.size (fun k_ => au k_) (.slice aI ay.length aJ) ay) (hs0_2 : Kd.V k72 72 w w.heap.size (fun k_ => av k_) (.slice aK az.length aL) az) (hs0_3 : Kd.V k64 64 w w.heap.size (fun k_ => aw k_) (.slice aM aA.length aN) aA) (h : portreevelaw16_GateLocks.f k aG ay az aA aC ax aB = some r) :
  Calls Try.prog 4 #[.agg #[.int .i64 aG, .slice aI ay.length aJ, .slice aK az.length aL, .slice aM aA.length aN, .string aC, .int .i64 ax, .int .u8 aB]] w fun e w' => e = .returned (.bool r) ∧ Below w.heap.size w w' := by
 have hu44 := Try.underlying44
 have hu26 := Try.underlying26
 have hu41 := Try.underlying41
 have aX := Aside0.mk (show Kd.V k76 76 w w.heap.size (fun k_ => ((au k_ ∨ av k_ ∨ aw k_) ∨ w.heap.size ≤ k_)) (.slice aI ay.length aJ) ay from Kd.V_mono hs0_1 (fun k_ hk => .inl (.inl hk)))
 have aY := Aside0.mk (show Kd.V k72 72 w w.heap.size (fun k_ => ((au k_ ∨ av k_ ∨ aw k_) ∨ w.heap.size ≤ k_)) (.slice aK az.length aL) az from Kd.V_mono hs0_2 (fun k_ hk => .inl (.inr (.inl hk))))
 have aZ := Aside0.mk (show Kd.V k64 64 w w.heap.size (fun k_ => ((au k_ ∨ av k_ ∨ aw k_) ∨ w.heap.size ≤ k_)) (.slice aM aA.length aN) aA from Kd.V_mono hs0_3 (fun k_ hk => .inl (.inr (.inr hk))))
 have HB := Aside0.mk (Below.refl w.heap.size w)
 have H : ((portreevelaw16_shown.f k).bind fun be => ((portreevelaw16_may.f k aG ay az aA aC ax).bind fun bI => (if bI = true then (portreevelaw16_GateLocks.j0 k aC ax aB be (decide (ax > 999999700)) aG ay az aA) else (portreevelaw16_GateLocks.j0 k aC ax aB be true aG ay az aA)))) = some r := h
 clear h
 replace H := Option.bind_eq_some_iff.mp H
 obtain ⟨be, dx, H⟩ := H
 replace H : ((portreevelaw16_may.f k aG ay az aA aC ax).bind fun bI => (if bI = true then (portreevelaw16_GateLocks.j0 k aC ax aB be (decide (ax > 999999700)) aG ay az aA) else (portreevelaw16_GateLocks.j0 k aC ax aB be true aG ay az aA))) = some r := H
 have A2 := Aside0.mk dx
 clear dx
 have HC3 := Aside0.mk H
 clear H
 go_enter Try.func4, Try.ntmps4
 go_upto_region 6 with (first | ((with_reducible refine gate_dst (N := 1) rfl ?_); (try (refine gate_guard (by rfl) ?_; dsimp only)); refine box_event ?hg (N := 1) ?hd (cs := #[.int .i64 aG, .slice aI ay.length aJ, .slice aK az.length aL, .slice aM aA.length aN, .string aC, .int .i64 ax, .int .u8 aB]) (t := 44) ?hr ?_; (case hd => rfl); (case hg => rfl); (case hr => first | (go_simp; done) | (go_simp; rfl)); intro ac hg w4 hbox hb; have n0_ := Aside0.mk (Kd.V_below (Kd.V_elderB (zV aX.out) ac (Nat.le_of_eq hg.symm)) hb); have n1_ := Aside0.mk (Kd.V_below (Kd.V_elderB (zV aY.out) ac (Nat.le_of_eq hg.symm)) hb); have n2_ := Aside0.mk (Kd.V_below (Kd.V_elderB (zV aZ.out) ac (Nat.le_of_eq hg.symm)) hb); have n3_ := Aside0.mk (below_step (zH HB.out) hb); have n4_ := Aside0.mk (hbox); have n5_ := Aside0.mk ((by rw [hg]; exact (below_size (zH HB.out)) : w.heap.size ≤ ac)); have n6_ := Aside0.mk ((by rw [hg]; exact (below_size (zH HB.out)) : w.heap.size ≤ ac)); clear aX; clear aY; clear aZ; clear HB; have aX := n0_; have aY := n1_; have aZ := n2_; have HB := n3_; have aq := n4_; have eR := n5_; have aD := n6_; clear n0_ n1_ n2_ n3_ n4_ n5_ n6_; clear hb hbox hg; obtain ⟨b0, b1, b2, b3, b4, b5, b6, b7, b8, b9, ca, cb, cc, cd⟩ := bk7 aq.out) | ((with_reducible refine gate_dst (N := 3) rfl ?_); (try (refine gate_guard (by rfl) ?_; dsimp only)); refine box_event ?hg (N := 3) ?hd (cs := #[.int .i64 0, .slice none 0 0, .slice none 0 0, .slice none 0 0]) (t := 26) ?hr ?_; (case hd => rfl); (case hg => rfl); (case hr => first | (go_simp; done) | (go_simp; rfl)); intro ab hg w6 hbox hb; have n0_ := Aside0.mk (Kd.V_below (Kd.V_elderB (zV aX.out) ab (Nat.le_of_eq hg.symm)) hb); have n1_ := Aside0.mk (Kd.V_below (Kd.V_elderB (zV aY.out) ab (Nat.le_of_eq hg.symm)) hb); have n2_ := Aside0.mk (Kd.V_below (Kd.V_elderB (zV aZ.out) ab (Nat.le_of_eq hg.symm)) hb); have n3_ := Aside0.mk (blk_below (g := ac) (o := .cells #[.int .i64 aG, .slice aI ay.length aJ, .slice aK az.length aL, .slice aM aA.length aN, .string aC, .int .i64 ax, .int .u8 aB] 44 (0, 0)) (zB aq.out) hb); have n4_ := Aside0.mk (below_step (by repeat (first | (with_reducible first | exact HB.out | apply pA | apply pN | apply pD | refine pS ?_ aD.out) | exact HB.out)) hb); have n5_ := Aside0.mk (hbox); have n6_ := Aside0.mk ((by rw [hg]; exact (below_size (by repeat (first | (with_reducible first | exact HB.out | apply pA | apply pN | apply pD | refine pS ?_ aD.out) | exact HB.out))) : w.heap.size ≤ ab)); have n7_ := Aside0.mk ((by rw [hg]; exact (below_size (by repeat (first | (with_reducible first | exact HB.out | apply pA | apply pN | apply pD | refine pS ?_ aD.out) | exact HB.out))) : w.heap.size ≤ ab)); have n8_ := Aside0.mk ((by rw [hg]; exact Nat.ne_of_lt (blk_lt (g := ac) (o := .cells #[.int .i64 aG, .slice aI ay.length aJ, .slice aK az.length aL, .slice aM aA.length aN, .string aC, .int .i64 ax, .int .u8 aB] 44 (0, 0)) (zB aq.out)) : ac ≠ ab)); have n9_ := Aside0.mk ((by rw [hg]; exact Nat.ne_of_gt (blk_lt (g := ac) (o := .cells #[.int .i64 aG, .slice aI ay.length aJ, .slice aK az.length aL, .slice aM aA.length aN, .string aC, .int .i64 ax, .int .u8 aB] 44 (0, 0)) (zB aq.out)) : ab ≠ ac)); clear aX; clear aY; clear aZ; clear aq; clear HB; have aX := n0_; have aY := n1_; have aZ := n2_; have aq := n3_; have HB := n4_; have ae := n5_; have eS := n6_; have aE := n7_; have bo := n8_; have bp := n9_; clear n0_ n1_ n2_ n3_ n4_ n5_ n6_ n7_ n8_ n9_; clear hb hbox hg; have fd := bp.out; have fe := bo.out; obtain ⟨ce, cf, cg, ch, ci, cj, ck, cl⟩ := bk4 ae.out; obtain ⟨cm, cn, co, cp, cq, cr, ct, cu, cv, cw, cx, cy, cz, cA⟩ := bk7 aq.out) | ((with_reducible refine gate_callee (f := 9) rfl ?_); refine goesL_ (some 28) rfl rfl Try.func9 (by kernel_rfl) rfl #[] rfl (by (try simp only [List.map_toArray, List.map_cons, List.map_nil]); first | done | rfl | (simp only [List.length_drop, List.length_take]; rfl)) ?_; (with_reducible refine (portreevelaw16_shown.calls k  be _ A2.out).mono ?_); rintro e w10 ⟨rfl, hb⟩; refine ⟨_, rfl, ?_⟩; have n0_ := Aside0.mk (Kd.V_below (fV aX.out (fun k_ hk => (⟨hk, hk.2⟩ : _ ∧ k_ ≠ ab)) (fun _ h_ => h_.1)) hb); have n1_ := Aside0.mk (Kd.V_below (fV aY.out (fun k_ hk => (⟨hk, hk.2⟩ : _ ∧ k_ ≠ ab)) (fun _ h_ => h_.1)) hb); have n2_ := Aside0.mk (Kd.V_below (fV aZ.out (fun k_ hk => (⟨hk, hk.2⟩ : _ ∧ k_ ≠ ab)) (fun _ h_ => h_.1)) hb); have n3_ := Aside0.mk (blk_below (g := ac) (o := .cells #[.int .i64 aG, .slice aI ay.length aJ, .slice aK az.length aL, .slice aM aA.length aN, .string aC, .int .i64 ax, .int .u8 aB] 44 (0, 0)) (fB bo.out aq.out) hb); have n4_ := Aside0.mk (blk_below (g := ab) (o := .cells #[.int .i64 aG, .slice aI ay.length aJ, .slice aK az.length aL, .slice aM aA.length aN] 26 (0, 0)) (by (with_reducible repeat (first | refine qN ?_ _ | refine qD ?_ | refine qA ?_ _)); refine blk_put (cs := #[.int .i64 aG, .slice aI ay.length aJ, .slice aK az.length aL, .slice none 0 0]) ?_ 3 _ rfl; (with_reducible repeat (first | refine qN ?_ _ | refine qD ?_ | refine qA ?_ _)); refine blk_put (cs := #[.int .i64 aG, .slice aI ay.length aJ, .slice none 0 0, .slice none 0 0]) ?_ 2 _ rfl; (with_reducible repeat (first | refine qN ?_ _ | refine qD ?_ | refine qA ?_ _)); refine blk_put (cs := #[.int .i64 aG, .slice none 0 0, .slice none 0 0, .slice none 0 0]) ?_ 1 _ rfl; (with_reducible repeat (first | refine qN ?_ _ | refine qD ?_ | refine qA ?_ _)); refine blk_put (cs := #[.int .i64 0, .slice none 0 0, .slice none 0 0, .slice none 0 0]) ?_ 0 _ rfl; (with_reducible repeat (first | refine qN ?_ _ | refine qD ?_ | refine qA ?_ _)); exact ae.out) hb); have n5_ := Aside0.mk (below_step (by repeat (first | (with_reducible first | exact HB.out | apply pA | apply pN | apply pD | refine pS ?_ aD.out | refine pS ?_ aE.out) | exact HB.out)) hb); clear aX; clear aY; clear aZ; clear aq; clear ae; clear HB; have aX := n0_; have aY := n1_; have aZ := n2_; have aq := n3_; have ae := n4_; have HB := n5_; clear n0_ n1_ n2_ n3_ n4_ n5_; (try clear hb); (try clear hb2); (try clear hk); (try clear hi)))
 (try simp only [Act.put, sT, s0, s1])
 go_cut [37] (fun v37 wc => ∃ (kq : Nat) (bZ : Bool), v37 = .bool bZ ∧ Aside0 (portreevelaw16_GateLocks.j0 kq aC ax aB be bZ aG ay az aA = some r) ∧ Aside0 (kq ≤ k) ∧ Aside0 (Kd.V k76 76 wc w.heap.size (fun k_ => ((au k_ ∨ av k_ ∨ aw k_) ∨ w.heap.size ≤ k_) ∧ k_ ≠ ac ∧ k_ ≠ ab) (.slice aI ay.length aJ) ay) ∧ Aside0 (Kd.V k72 72 wc w.heap.size (fun k_ => ((au k_ ∨ av k_ ∨ aw k_) ∨ w.heap.size ≤ k_) ∧ k_ ≠ ac ∧ k_ ≠ ab) (.slice aK az.length aL) az) ∧ Aside0 (Kd.V k64 64 wc w.heap.size (fun k_ => ((au k_ ∨ av k_ ∨ aw k_) ∨ w.heap.size ≤ k_) ∧ k_ ≠ ac ∧ k_ ≠ ab) (.slice aM aA.length aN) aA) ∧ Aside0 (Kd.V k76 76 wc w.heap.size (fun k_ => ((au k_ ∨ av k_ ∨ aw k_) ∨ w.heap.size ≤ k_) ∧ k_ ≠ ac ∧ k_ ≠ ab) (.slice aI ay.length aJ) ay) ∧ Aside0 (Kd.V k72 72 wc w.heap.size (fun k_ => ((au k_ ∨ av k_ ∨ aw k_) ∨ w.heap.size ≤ k_) ∧ k_ ≠ ac ∧ k_ ≠ ab) (.slice aK az.length aL) az) ∧ Aside0 (Kd.V k64 64 wc w.heap.size (fun k_ => ((au k_ ∨ av k_ ∨ aw k_) ∨ w.heap.size ≤ k_) ∧ k_ ≠ ac ∧ k_ ≠ ab) (.slice aM aA.length aN) aA) ∧ Aside0 (wc.heap[ac]? = some (.cells #[.int .i64 aG, (.slice aI ay.length aJ), (.slice aK az.length aL), (.slice aM aA.length aN), .string aC, .int .i64 ax, .int .u8 aB] 44 (0, 0))) ∧ Aside0 (wc.heap[ab]? = some (.cells #[.int .i64 aG, (.slice aI ay.length aJ), (.slice aK az.length aL), (.slice aM aA.length aN)] 26 (0, 0))) ∧ Aside0 (Below w.heap.size w wc))
 case first =>
  have H := HC3.out
  clear HC3
  replace H := Option.bind_eq_some_iff.mp H
  obtain ⟨bI, cY, H⟩ := H
  replace H : (if bI = true then (portreevelaw16_GateLocks.j0 k aC ax aB be (decide (ax > 999999700)) aG ay az aA) else (portreevelaw16_GateLocks.j0 k aC ax aB be true aG ay az aA)) = some r := H
  have dy := Aside0.mk cY
  clear cY
  by_cases c12 : bI = true
  ·subst c12
   have H1 : (portreevelaw16_GateLocks.j0 k aC ax aB be (decide (ax > 999999700)) aG ay az aA) = some r := by rw [if_pos rfl] at H; exact H
   clear H
   have H := H1
   clear H1
   have H' := Aside0.mk H
   clear H
   have eT := bp.out
   have eU := bo.out
   obtain ⟨bJ, bK, bL, bM, bN, bO, bP, bQ⟩ := bk4 ae.out
   go_wp2_with (first | ((with_reducible refine gate_callee (f := 10) rfl ?_); refine goesL_ (some 32) rfl rfl Try.func10 (by kernel_rfl) rfl #[.agg #[.int .i64 aG, .slice aI ay.length aJ, .slice aK az.length aL, .slice aM aA.length aN], .string aC, .int .i64 ax] rfl (by (try simp only [List.map_toArray, List.map_cons, List.map_nil]); first | done | rfl | (simp only [List.length_drop, List.length_take]; rfl)) ?_; (with_reducible refine (portreevelaw16_may.calls k aG _ _ ay _ _ az _ _ aA aC ax true _ ?side1 ?side2 ?side3 ?side4 ?side5 ?side6 dy.out).mono ?_); (case side1 => repeat (first | exact (Kd.V_reads' aX.out).2.2 | (with_reducible refine Kd.C_alloc ?_ _) | (with_reducible refine Kd.C_drewN ?_ _) | (with_reducible refine Kd.C_drew ?_))); (case side2 => exact (Kd.V_reads' aX.out).2.1); (case side3 => repeat (first | exact (Kd.V_reads' aY.out).2.2 | (with_reducible refine Kd.C_alloc ?_ _) | (with_reducible refine Kd.C_drewN ?_ _) | (with_reducible refine Kd.C_drew ?_))); (case side4 => exact (Kd.V_reads' aY.out).2.1); (case side5 => repeat (first | exact (Kd.V_reads' aZ.out).2.2 | (with_reducible refine Kd.C_alloc ?_ _) | (with_reducible refine Kd.C_drewN ?_ _) | (with_reducible refine Kd.C_drew ?_))); (case side6 => exact (Kd.V_reads' aZ.out).2.1); rintro e w15 ⟨rfl, hb⟩; refine ⟨_, rfl, ?_⟩; have n0_ := Aside0.mk (Kd.V_below (zV aX.out) hb); have n1_ := Aside0.mk (Kd.V_below (zV aY.out) hb); have n2_ := Aside0.mk (Kd.V_below (zV aZ.out) hb); have n3_ := Aside0.mk (blk_below (g := ac) (o := .cells #[.int .i64 aG, .slice aI ay.length aJ, .slice aK az.length aL, .slice aM aA.length aN, .string aC, .int .i64 ax, .int .u8 aB] 44 (0, 0)) (zB aq.out) hb); have n4_ := Aside0.mk (blk_below (g := ab) (o := .cells #[.int .i64 aG, .slice aI ay.length aJ, .slice aK az.length aL, .slice aM aA.length aN] 26 (0, 0)) (zB ae.out) hb); have n5_ := Aside0.mk (below_step (by repeat (first | (with_reducible first | exact HB.out | apply pA | apply pN | apply pD | refine pS ?_ aD.out | refine pS ?_ aE.out) | exact HB.out)) hb); clear aX; clear aY; clear aZ; clear aq; clear ae; clear HB; have aX := n0_; have aY := n1_; have aZ := n2_; have aq := n3_; have ae := n4_; have HB := n5_; clear n0_ n1_ n2_ n3_ n4_ n5_; (try clear hb); (try clear hb2); (try clear hk); (try clear hi)))
   go_meet
   case rel => exact ⟨_, (decide (ax > 999999700)), (by first | rfl | (simp; done) | (simp [*]; done)), H', ⟨by first | omega | exact Nat.le_refl _⟩, ⟨zV (Kd.V_mono aX.out (fun _ hk => ⟨hk.1.1, ⟨hk.1.2, hk.2⟩⟩))⟩, ⟨zV (Kd.V_mono aY.out (fun _ hk => ⟨hk.1.1, ⟨hk.1.2, hk.2⟩⟩))⟩, ⟨zV (Kd.V_mono aZ.out (fun _ hk => ⟨hk.1.1, ⟨hk.1.2, hk.2⟩⟩))⟩, ⟨zV (Kd.V_mono aX.out (fun _ hk => ⟨hk.1.1, ⟨hk.1.2, hk.2⟩⟩))⟩, ⟨zV (Kd.V_mono aY.out (fun _ hk => ⟨hk.1.1, ⟨hk.1.2, hk.2⟩⟩))⟩, ⟨zV (Kd.V_mono aZ.out (fun _ hk => ⟨hk.1.1, ⟨hk.1.2, hk.2⟩⟩))⟩, ⟨zB aq.out⟩, ⟨zB ae.out⟩, ⟨by repeat (first | (with_reducible first | exact HB.out | apply pA | apply pN | apply pD | refine pS ?_ aD.out | refine pS ?_ aE.out) | exact HB.out)⟩⟩
  ·replace c12 := Bool.eq_false_iff.mpr c12
   subst c12
   have H1 : (portreevelaw16_GateLocks.j0 k aC ax aB be true aG ay az aA) = some r := by rw [if_neg (show ¬ (false = true) by decide)] at H; exact H
   clear H
   have H := H1
   clear H1
   have H' := Aside0.mk H
   clear H
   have eV := bp.out
   have eW := bo.out
   obtain ⟨bR, bS, bT, bU, bV, bW, bX, bY⟩ := bk4 ae.out
   go_wp2_with (first | ((with_reducible refine gate_callee (f := 10) rfl ?_); refine goesL_ (some 32) rfl rfl Try.func10 (by kernel_rfl) rfl #[.agg #[.int .i64 aG, .slice aI ay.length aJ, .slice aK az.length aL, .slice aM aA.length aN], .string aC, .int .i64 ax] rfl (by (try simp only [List.map_toArray, List.map_cons, List.map_nil]); first | done | rfl | (simp only [List.length_drop, List.length_take]; rfl)) ?_; (with_reducible refine (portreevelaw16_may.calls k aG _ _ ay _ _ az _ _ aA aC ax false _ ?side1 ?side2 ?side3 ?side4 ?side5 ?side6 dy.out).mono ?_); (case side1 => repeat (first | exact (Kd.V_reads' aX.out).2.2 | (with_reducible refine Kd.C_alloc ?_ _) | (with_reducible refine Kd.C_drewN ?_ _) | (with_reducible refine Kd.C_drew ?_))); (case side2 => exact (Kd.V_reads' aX.out).2.1); (case side3 => repeat (first | exact (Kd.V_reads' aY.out).2.2 | (with_reducible refine Kd.C_alloc ?_ _) | (with_reducible refine Kd.C_drewN ?_ _) | (with_reducible refine Kd.C_drew ?_))); (case side4 => exact (Kd.V_reads' aY.out).2.1); (case side5 => repeat (first | exact (Kd.V_reads' aZ.out).2.2 | (with_reducible refine Kd.C_alloc ?_ _) | (with_reducible refine Kd.C_drewN ?_ _) | (with_reducible refine Kd.C_drew ?_))); (case side6 => exact (Kd.V_reads' aZ.out).2.1); rintro e w18 ⟨rfl, hb⟩; refine ⟨_, rfl, ?_⟩; have n0_ := Aside0.mk (Kd.V_below (zV aX.out) hb); have n1_ := Aside0.mk (Kd.V_below (zV aY.out) hb); have n2_ := Aside0.mk (Kd.V_below (zV aZ.out) hb); have n3_ := Aside0.mk (blk_below (g := ac) (o := .cells #[.int .i64 aG, .slice aI ay.length aJ, .slice aK az.length aL, .slice aM aA.length aN, .string aC, .int .i64 ax, .int .u8 aB] 44 (0, 0)) (zB aq.out) hb); have n4_ := Aside0.mk (blk_below (g := ab) (o := .cells #[.int .i64 aG, .slice aI ay.length aJ, .slice aK az.length aL, .slice aM aA.length aN] 26 (0, 0)) (zB ae.out) hb); have n5_ := Aside0.mk (below_step (by repeat (first | (with_reducible first | exact HB.out | apply pA | apply pN | apply pD | refine pS ?_ aD.out | refine pS ?_ aE.out) | exact HB.out)) hb); clear aX; clear aY; clear aZ; clear aq; clear ae; clear HB; have aX := n0_; have aY := n1_; have aZ := n2_; have aq := n3_; have ae := n4_; have HB := n5_; clear n0_ n1_ n2_ n3_ n4_ n5_; (try clear hb); (try clear hb2); (try clear hk); (try clear hi)))
   go_meet
   case rel => exact ⟨_, (true), (by first | rfl | (simp; done) | (simp [*]; done)), H', ⟨by first | omega | exact Nat.le_refl _⟩, ⟨zV (Kd.V_mono aX.out (fun _ hk => ⟨hk.1.1, ⟨hk.1.2, hk.2⟩⟩))⟩, ⟨zV (Kd.V_mono aY.out (fun _ hk => ⟨hk.1.1, ⟨hk.1.2, hk.2⟩⟩))⟩, ⟨zV (Kd.V_mono aZ.out (fun _ hk => ⟨hk.1.1, ⟨hk.1.2, hk.2⟩⟩))⟩, ⟨zV (Kd.V_mono aX.out (fun _ hk => ⟨hk.1.1, ⟨hk.1.2, hk.2⟩⟩))⟩, ⟨zV (Kd.V_mono aY.out (fun _ hk => ⟨hk.1.1, ⟨hk.1.2, hk.2⟩⟩))⟩, ⟨zV (Kd.V_mono aZ.out (fun _ hk => ⟨hk.1.1, ⟨hk.1.2, hk.2⟩⟩))⟩, ⟨zB aq.out⟩, ⟨zB ae.out⟩, ⟨by repeat (first | (with_reducible first | exact HB.out | apply pA | apply pN | apply pD | refine pS ?_ aD.out | refine pS ?_ aE.out) | exact HB.out)⟩⟩
 case rest =>
  clear HC3
  try clear c1
  try clear p2
  try clear c4
  try clear c7
  try clear c9
  try clear c10
  try clear c12
  try clear c13
  try clear c16
  try clear bJ
  try clear bK
  try clear bL
  try clear bM
  try clear bR
  try clear bS
  try clear bT
  try clear bU
  try clear b0
  try clear b1
  try clear b2
  try clear b3
  try clear b4
  try clear b5
  try clear b6
  try clear ce
  try clear cf
  try clear cg
  try clear ch
  try clear cm
  try clear cn
  try clear co
  try clear cp
  try clear cq
  try clear cr
  try clear ct
  try clear bN
  try clear bO
  try clear bP
  try clear bQ
  try clear bV
  try clear bW
  try clear bX
  try clear bY
  try clear b7
  try clear b8
  try clear b9
  try clear ca
  try clear cb
  try clear cc
  try clear cd
  try clear ci
  try clear cj
  try clear ck
  try clear cl
  try clear cu
  try clear cv
  try clear cw
  try clear cx
  try clear cy
  try clear cz
  try clear cA
  obtain ⟨kq, bZ, rfl, HA, cL, ak, al, am, af, ag, ah, aq, ae, HB⟩ := hcut
  cases kq with
  | zero => exact absurd HA.out (by simp [portreevelaw16_GateLocks.j0])
  | succ cZ =>
   have H := HA.out
   clear HA
   simp only [portreevelaw16_GateLocks.j0] at H
   by_cases c19 : bZ = true
   ·subst c19
    have H1 : (some be) = some r := by rw [if_pos rfl] at H; exact H
    clear H
    have H := H1
    clear H1
    clear hlaw_
    obtain rfl := Option.some.inj H
    go_wp2
    go_ret
    exact ⟨by first | rfl | (simp [errW_none, errW_some] <;> rfl) | (simp [*, errW_none, errW_some] <;> rfl), by repeat (first | (with_reducible first | exact HB.out | apply pA | apply pN | apply pD | refine pS ?_ aD.out | refine pS ?_ aE.out) | exact HB.out)⟩
   ·replace c19 := Bool.eq_false_iff.mpr c19
    subst c19
    have H1 : (portreevelaw16_GateLocks.l0 cZ aC ax aB be 0 aG ay az aA) = some r := by rw [if_neg (show ¬ (false = true) by decide)] at H; exact H
    clear H
    have H := H1
    clear H1
    have H' := Aside0.mk H
    clear H
    go_wp2
    go_loopg [8] cZ (fun kq v8 w' => ∃ (bx : Int) (aR : Int) (aO : List (S76)) (aP : List (S72)) (aQ : List (S64)) (u375001 : Value) (u375002 : Value) (u375003 : Value), v8 = .int .i64 bx ∧ Aside0 (portreevelaw16_GateLocks.l0 kq aC ax aB be bx aR aO aP aQ = some r) ∧ Aside0 (kq ≤ cZ) ∧ Aside0 (Kd.V k76 76 w' w.heap.size (fun k_ => ((au k_ ∨ av k_ ∨ aw k_) ∨ w.heap.size ≤ k_) ∧ k_ ≠ ac ∧ k_ ≠ ab) (.slice aI ay.length aJ) ay) ∧ Aside0 (Kd.V k72 72 w' w.heap.size (fun k_ => ((au k_ ∨ av k_ ∨ aw k_) ∨ w.heap.size ≤ k_) ∧ k_ ≠ ac ∧ k_ ≠ ab) (.slice aK az.length aL) az) ∧ Aside0 (Kd.V k64 64 w' w.heap.size (fun k_ => ((au k_ ∨ av k_ ∨ aw k_) ∨ w.heap.size ≤ k_) ∧ k_ ≠ ac ∧ k_ ≠ ab) (.slice aM aA.length aN) aA) ∧ Aside0 (Kd.V k76 76 w' w.heap.size (fun k_ => ((au k_ ∨ av k_ ∨ aw k_) ∨ w.heap.size ≤ k_) ∧ k_ ≠ ac ∧ k_ ≠ ab) u375001 aO) ∧ Aside0 (Kd.V k72 72 w' w.heap.size (fun k_ => ((au k_ ∨ av k_ ∨ aw k_) ∨ w.heap.size ≤ k_) ∧ k_ ≠ ac ∧ k_ ≠ ab) u375002 aP) ∧ Aside0 (Kd.V k64 64 w' w.heap.size (fun k_ => ((au k_ ∨ av k_ ∨ aw k_) ∨ w.heap.size ≤ k_) ∧ k_ ≠ ac ∧ k_ ≠ ab) u375003 aQ) ∧ Aside0 (w'.heap[ac]? = some (.cells #[.int .i64 aG, (.slice aI ay.length aJ), (.slice aK az.length aL), (.slice aM aA.length aN), .string aC, .int .i64 ax, .int .u8 aB] 44 (0, 0))) ∧ Aside0 (w'.heap[ab]? = some (.cells #[.int .i64 aR, u375001, u375002, u375003] 26 (0, 0))) ∧ Aside0 (Below w.heap.size w w'))
    case atStart => exact ⟨(0), (aG), (ay), (az), (aA), (.slice aI ay.length aJ), (.slice aK az.length aL), (.slice aM aA.length aN), (by first | rfl | (simp; done) | (simp [*]; done)), H', ⟨Nat.le_refl _⟩, ⟨zV ak.out⟩, ⟨zV al.out⟩, ⟨zV am.out⟩, ⟨zV af.out⟩, ⟨zV ag.out⟩, ⟨zV ah.out⟩, ⟨zB aq.out⟩, ⟨zB ae.out⟩, ⟨by repeat (first | (with_reducible first | exact HB.out | apply pA | apply pN | apply pD | refine pS ?_ aD.out | refine pS ?_ aE.out) | exact HB.out)⟩⟩
    case round =>
     clear H'
     try clear c1
     try clear p2
     try clear c4
     try clear c7
     try clear c9
     try clear c10
     try clear c12
     try clear c13
     try clear c16
     try clear c19
     try clear bJ
     try clear bK
     try clear bL
     try clear bM
     try clear bR
     try clear bS
     try clear bT
     try clear bU
     try clear b0
     try clear b1
     try clear b2
     try clear b3
     try clear b4
     try clear b5
     try clear b6
     try clear ce
     try clear cf
     try clear cg
     try clear ch
     try clear cm
     try clear cn
     try clear co
     try clear cp
     try clear cq
     try clear cr
     try clear ct
     try clear bN
     try clear bO
     try clear bP
     try clear bQ
     try clear bV
     try clear bW
     try clear bX
     try clear bY
     try clear b7
     try clear b8
     try clear b9
     try clear ca
     try clear cb
     try clear cc
     try clear cd
     try clear ci
     try clear cj
     try clear ck
     try clear cl
     try clear cu
     try clear cv
     try clear cw
     try clear cx
     try clear cy
     try clear cz
     try clear cA
     try clear p2
     obtain ⟨bx, aR, aO, aP, aQ, u375001, u375002, u375003, rfl, HA, cM, ak, al, am, af, ag, ah, aq, ae, HB⟩ := hrel
     cases gk with
     | zero => exact absurd HA.out (by simp [portreevelaw16_GateLocks.l0])
     | succ k2 =>
      have H := HA.out
      clear HA
      simp only [portreevelaw16_GateLocks.l0] at H
      by_cases c20 : bx < 3
      ·rw [if_pos c20] at H
       have cN : decide (bx < 3) = true := decide_eq_true c20
       clear c20
       replace H := Option.bind_eq_some_iff.mp H
       obtain ⟨⟨dz, aj⟩, c0, H⟩ := H
       replace H : (portreevelaw16_GateLocks.l1 k2 aC ax aB be bx aj 0 aR aO aP aQ) = some r := H
       have eM := Aside0.mk c0
       clear c0
       have H' := Aside0.mk H
       clear H
       have eX := bp.out
       have eY := bo.out
       obtain ⟨cQ, cR, cS, cT, cU, cV, cW, cX⟩ := bk4 ae.out
       obtain ⟨cB, cC, dA⟩ := Kd.V_slice af.out
       subst dA
       obtain ⟨cD, cE, dB⟩ := Kd.V_slice ag.out
       subst dB
       obtain ⟨cF, cG, dC⟩ := Kd.V_slice ah.out
       subst dC
       go_wp2_with (first | ((with_reducible refine gate_callee (f := 11) rfl ?_); refine goesL_ (some 47) rfl rfl Try.func11 (by kernel_rfl) rfl #[.agg #[.int .i64 aR, .slice cB aO.length cC, .slice cD aP.length cE, .slice cF aQ.length cG], .string aC, .bool true, .bool false, .int .i64 ax] rfl (by (try simp only [List.map_toArray, List.map_cons, List.map_nil]); first | done | rfl | (simp only [List.length_drop, List.length_take]; rfl)) ?_; (with_reducible refine (gate_Verdict.calls k2 aR _ _ aO _ _ aP _ _ aQ aC true false ax dz aj _ ?side1 ?side2 ?side3 ?side4 ?side5 ?side6 eM.out).mono ?_); (case side1 => repeat (first | exact (Kd.V_reads' af.out).2.2 | (with_reducible refine Kd.C_alloc ?_ _) | (with_reducible refine Kd.C_drewN ?_ _) | (with_reducible refine Kd.C_drew ?_))); (case side2 => exact (Kd.V_reads' af.out).2.1); (case side3 => repeat (first | exact (Kd.V_reads' ag.out).2.2 | (with_reducible refine Kd.C_alloc ?_ _) | (with_reducible refine Kd.C_drewN ?_ _) | (with_reducible refine Kd.C_drew ?_))); (case side4 => exact (Kd.V_reads' ag.out).2.1); (case side5 => repeat (first | exact (Kd.V_reads' ah.out).2.2 | (with_reducible refine Kd.C_alloc ?_ _) | (with_reducible refine Kd.C_drewN ?_ _) | (with_reducible refine Kd.C_drew ?_))); (case side6 => exact (Kd.V_reads' ah.out).2.1); rintro e w27 ⟨v379, rfl, ho0, hb⟩; refine ⟨_, rfl, ?_⟩; have n0_ := Aside0.mk (Kd.V_below (zV ak.out) hb); have n1_ := Aside0.mk (Kd.V_below (zV al.out) hb); have n2_ := Aside0.mk (Kd.V_below (zV am.out) hb); have n3_ := Aside0.mk (Kd.V_below (zV af.out) hb); have n4_ := Aside0.mk (Kd.V_below (zV ag.out) hb); have n5_ := Aside0.mk (Kd.V_below (zV ah.out) hb); have n6_ := Aside0.mk (Kd.V_lower (Kd.V_mono (ok' := fun k_ => ((au k_ ∨ av k_ ∨ aw k_) ∨ w.heap.size ≤ k_) ∧ k_ ≠ ac ∧ k_ ≠ ab) ho0 (fun k_ hk_ => ⟨(.inr (Nat.le_trans (below_size (by repeat (first | (with_reducible first | exact HB.out | apply pA | apply pN | apply pD | refine pS ?_ aD.out | refine pS ?_ aE.out) | exact HB.out))) hk_)), (Kd.freshB (g := ac) (o := .cells #[.int .i64 aG, .slice aI ay.length aJ, .slice aK az.length aL, .slice aM aA.length aN, .string aC, .int .i64 ax, .int .u8 aB] 44 (0, 0)) (zB aq.out) k_ hk_), (Kd.freshB (g := ab) (o := .cells #[.int .i64 aR, .slice cB aO.length cC, .slice cD aP.length cE, .slice cF aQ.length cG] 26 (0, 0)) (zB ae.out) k_ hk_)⟩)) (below_size (by repeat (first | (with_reducible first | exact HB.out | apply pA | apply pN | apply pD | refine pS ?_ aD.out | refine pS ?_ aE.out) | exact HB.out)))); have n7_ := Aside0.mk (blk_below (g := ac) (o := .cells #[.int .i64 aG, .slice aI ay.length aJ, .slice aK az.length aL, .slice aM aA.length aN, .string aC, .int .i64 ax, .int .u8 aB] 44 (0, 0)) (zB aq.out) hb); have n8_ := Aside0.mk (blk_below (g := ab) (o := .cells #[.int .i64 aR, .slice cB aO.length cC, .slice cD aP.length cE, .slice cF aQ.length cG] 26 (0, 0)) (zB ae.out) hb); have n9_ := Aside0.mk (below_step (by repeat (first | (with_reducible first | exact HB.out | apply pA | apply pN | apply pD | refine pS ?_ aD.out | refine pS ?_ aE.out) | exact HB.out)) hb); clear ak; clear al; clear am; clear af; clear ag; clear ah; clear aq; clear ae; clear HB; have ak := n0_; have al := n1_; have am := n2_; have af := n3_; have ag := n4_; have ah := n5_; have dl := n6_; have aq := n7_; have ae := n8_; have HB := n9_; clear n0_ n1_ n2_ n3_ n4_ n5_ n6_ n7_ n8_ n9_; (try clear hb); (try clear hb2); (try clear hk); (try clear hi); (try clear ho0)))
       go_loopg [11] k2 (fun kq v11 w' => ∃ (aa : Int) (ar : Int) (ao : List (S76)) (an : List (S72)) (ai : List (S64)) (u375001 : Value) (u375002 : Value) (u375003 : Value), v11 = .int .i64 aa ∧ Aside0 (portreevelaw16_GateLocks.l1 kq aC ax aB be bx aj aa ar ao an ai = some r) ∧ Aside0 (kq ≤ k2) ∧ Aside0 (Kd.V k41 41 w' w.heap.size (fun k_ => ((au k_ ∨ av k_ ∨ aw k_) ∨ w.heap.size ≤ k_) ∧ k_ ≠ ac ∧ k_ ≠ ab) v379 aj) ∧ Aside0 (Kd.V k76 76 w' w.heap.size (fun k_ => ((au k_ ∨ av k_ ∨ aw k_) ∨ w.heap.size ≤ k_) ∧ k_ ≠ ac ∧ k_ ≠ ab) (.slice aI ay.length aJ) ay) ∧ Aside0 (Kd.V k72 72 w' w.heap.size (fun k_ => ((au k_ ∨ av k_ ∨ aw k_) ∨ w.heap.size ≤ k_) ∧ k_ ≠ ac ∧ k_ ≠ ab) (.slice aK az.length aL) az) ∧ Aside0 (Kd.V k64 64 w' w.heap.size (fun k_ => ((au k_ ∨ av k_ ∨ aw k_) ∨ w.heap.size ≤ k_) ∧ k_ ≠ ac ∧ k_ ≠ ab) (.slice aM aA.length aN) aA) ∧ Aside0 (Kd.V k76 76 w' w.heap.size (fun k_ => ((au k_ ∨ av k_ ∨ aw k_) ∨ w.heap.size ≤ k_) ∧ k_ ≠ ac ∧ k_ ≠ ab) u375001 ao) ∧ Aside0 (Kd.V k72 72 w' w.heap.size (fun k_ => ((au k_ ∨ av k_ ∨ aw k_) ∨ w.heap.size ≤ k_) ∧ k_ ≠ ac ∧ k_ ≠ ab) u375002 an) ∧ Aside0 (Kd.V k64 64 w' w.heap.size (fun k_ => ((au k_ ∨ av k_ ∨ aw k_) ∨ w.heap.size ≤ k_) ∧ k_ ≠ ac ∧ k_ ≠ ab) u375003 ai) ∧ Aside0 (w'.heap[ac]? = some (.cells #[.int .i64 aG, (.slice aI ay.length aJ), (.slice aK az.length aL), (.slice aM aA.length aN), .string aC, .int .i64 ax, .int .u8 aB] 44 (0, 0))) ∧ Aside0 (w'.heap[ab]? = some (.cells #[.int .i64 ar, u375001, u375002, u375003] 26 (0, 0))) ∧ Aside0 (Below w.heap.size w w'))
       case atStart => exact ⟨(0), (aR), (aO), (aP), (aQ), (.slice cB aO.length cC), (.slice cD aP.length cE), (.slice cF aQ.length cG), (by first | rfl | (simp; done) | (simp [*]; done)), H', ⟨Nat.le_refl _⟩, ⟨zV dl.out⟩, ⟨zV ak.out⟩, ⟨zV al.out⟩, ⟨zV am.out⟩, ⟨zV af.out⟩, ⟨zV ag.out⟩, ⟨zV ah.out⟩, ⟨zB aq.out⟩, ⟨zB ae.out⟩, ⟨by repeat (first | (with_reducible first | exact HB.out | apply pA | apply pN | apply pD | refine pS ?_ aD.out | refine pS ?_ aE.out) | exact HB.out)⟩⟩
       case round =>
        clear H'
        try clear c1
        try clear c2
        try clear p2
        try clear c4
        try clear c7
        try clear c9
        try clear c10
        try clear c11
        try clear c12
        try clear c13
        try clear c16
        try clear c19
        try clear c20
        try clear cN
        try clear c22
        try clear bJ
        try clear bK
        try clear bL
        try clear bM
        try clear bR
        try clear bS
        try clear bT
        try clear bU
        try clear cQ
        try clear cR
        try clear cS
        try clear cT
        try clear b0
        try clear b1
        try clear b2
        try clear b3
        try clear b4
        try clear b5
        try clear b6
        try clear ce
        try clear cf
        try clear cg
        try clear ch
        try clear cm
        try clear cn
        try clear co
        try clear cp
        try clear cq
        try clear cr
        try clear ct
        try clear bN
        try clear bO
        try clear bP
        try clear bQ
        try clear bV
        try clear bW
        try clear bX
        try clear bY
        try clear cU
        try clear cV
        try clear cW
        try clear cX
        try clear b7
        try clear b8
        try clear b9
        try clear ca
        try clear cb
        try clear cc
        try clear cd
        try clear ci
        try clear cj
        try clear ck
        try clear cl
        try clear cu
        try clear cv
        try clear cw
        try clear cx
        try clear cy
        try clear cz
        try clear cA
        try clear p2
        obtain ⟨aa, ar, ao, an, ai, u375001, u375002, u375003, rfl, HA, cO, aF, ak, al, am, af, ag, ah, aq, ae, HB⟩ := hrel
        cases gk with
        | zero => exact absurd HA.out (by simp [portreevelaw16_GateLocks.l1])
        | succ k3 =>
         have H := HA.out
         clear HA
         simp only [portreevelaw16_GateLocks.l1] at H
         by_cases c28 : aa < (aj.length : Int)
         ·rw [if_pos c28] at H
          have dm : decide (aa < (aj.length : Int)) = true := decide_eq_true c28
          clear c28
          by_cases c29 : 0 ≤ aa
          ·rw [if_pos c29] at H
           have eZ : decide (0 ≤ aa) = true := decide_eq_true c29
           clear c29
           replace H := Option.bind_eq_some_iff.mp H
           obtain ⟨⟨br, bs, bt, bv, bq⟩, c3, H⟩ := H
           replace H : (if bq = 0 then (portreevelaw16_GateLocks.l1 k3 aC ax aB be bx aj (wrap64 (aa + 1)) br bs bt bv) else (if be = true then (some ((ai.length : Int) == 8)) else (some false))) = some r := H
           have cP := Aside0.mk c3
           clear c3
           by_cases c31 : bq = 0
           ·rw [if_pos c31] at H
            have dn : (bq == 0) = true := beq_iff_eq.mpr c31
            have dp : (bq != 0) = false := bne_eq_false_iff_eq.mpr c31
            clear c31
            have H' := Aside0.mk H
            clear H
            obtain ⟨ff, c5, dD⟩ := Kd.V_slice aF.out
            subst dD
            obtain ⟨bc, bd, dE⟩ := Kd.V_slice af.out
            subst dE
            obtain ⟨ba, bb, dF⟩ := Kd.V_slice ag.out
            subst dF
            obtain ⟨a8, a9, dG⟩ := Kd.V_slice ah.out
            subst dG
            try go_wp2
            have n0_ := Aside0.mk (Kd.V_drew aF.out)
            have n1_ := Aside0.mk (Kd.V_drew ak.out)
            have n2_ := Aside0.mk (Kd.V_drew al.out)
            have n3_ := Aside0.mk (Kd.V_drew am.out)
            have n4_ := Aside0.mk (Kd.V_drew af.out)
            have n5_ := Aside0.mk (Kd.V_drew ag.out)
            have n6_ := Aside0.mk (Kd.V_drew ah.out)
            have n7_ := Aside0.mk (qD aq.out)
            have n8_ := Aside0.mk (qD ae.out)
            have n9_ := Aside0.mk (pD HB.out)
            clear aF
            clear ak
            clear al
            clear am
            clear af
            clear ag
            clear ah
            clear aq
            clear ae
            clear HB
            have aF := n0_
            have ak := n1_
            have al := n2_
            have am := n3_
            have af := n4_
            have ag := n5_
            have ah := n6_
            have aq := n7_
            have ae := n8_
            have HB := n9_
            clear n0_ n1_ n2_ n3_ n4_ n5_ n6_ n7_ n8_ n9_
            have p381 : 0 ≤ (aa : Int) := of_decide_eq_true (by first | (with_reducible assumption) | assumption)
            have q381 : aa < (aj.length : Int) := of_decide_eq_true (by first | (with_reducible assumption) | assumption)
            obtain ⟨ap, e381, hx381_0, hx381_1, hx381_2, hx381_3, hx381_4, hx381_5, hx381_6, hx381_7, hx381_8⟩ := at_T41 (Kd.V_reads' aF.out).2.2 aa p381 q381
            cases e381
            replace p381 := eq_true p381
            replace q381 := eq_true q381
            refine start_ (n := 12) (S := fun w' => w'.cell? ⟨ab, 0, none⟩ = some (.int .i64 ar) ∧ w'.cell? ⟨ab, 1, none⟩ = some (.slice bc ao.length bd) ∧ w'.cell? ⟨ab, 2, none⟩ = some (.slice ba an.length bb) ∧ w'.cell? ⟨ab, 3, none⟩ = some (.slice a8 ai.length a9) ∧ w'.cell? (ap.add ((aa).toNat * 9)) = some (.int .i64 ((rd_T41 aj aa).f0)) ∧ w'.cell? ⟨(ap.add ((aa).toNat * 9)).block, (ap.add ((aa).toNat * 9)).off + 1, none⟩ = some (.int .i64 ((rd_T41 aj aa).f1)) ∧ w'.cell? ⟨(ap.add ((aa).toNat * 9)).block, (ap.add ((aa).toNat * 9)).off + 2, none⟩ = some (.int .i64 ((rd_T41 aj aa).f2)) ∧ w'.cell? ⟨(ap.add ((aa).toNat * 9)).block, (ap.add ((aa).toNat * 9)).off + 3, none⟩ = some (.int .u32 ((rd_T41 aj aa).f3)) ∧ w'.cell? ⟨(ap.add ((aa).toNat * 9)).block, (ap.add ((aa).toNat * 9)).off + 4, none⟩ = some (.string ((rd_T41 aj aa).f4)) ∧ w'.cell? ⟨(ap.add ((aa).toNat * 9)).block, (ap.add ((aa).toNat * 9)).off + 5, none⟩ = some (.int .u64 ((rd_T41 aj aa).f5)) ∧ w'.cell? ⟨(ap.add ((aa).toNat * 9)).block, (ap.add ((aa).toNat * 9)).off + 6, none⟩ = some (.int .u64 ((rd_T41 aj aa).f6)) ∧ w'.cell? ⟨(ap.add ((aa).toNat * 9)).block, (ap.add ((aa).toNat * 9)).off + 7, none⟩ = some (.int .i64 ((rd_T41 aj aa).f7)) ∧ w'.cell? ⟨(ap.add ((aa).toNat * 9)).block, (ap.add ((aa).toNat * 9)).off + 8, none⟩ = some (.int .i64 ((rd_T41 aj aa).f8))) (ds := []) #[false, false, false, false, false, false, false, false, false, false, false, false] (by kernel_rfl) rfl rfl ⟨(blk_cell ae.out 0).trans rfl, (blk_cell ae.out 1).trans rfl, (blk_cell ae.out 2).trans rfl, (blk_cell ae.out 3).trans rfl, hx381_0, hx381_1, hx381_2, hx381_3, hx381_4, hx381_5, hx381_6, hx381_7, hx381_8⟩ (fun hHeld => ?_); refine with_tabW portreevelaw16_GateLocks.tab15 portreevelaw16_GateLocks.bits15 (fun HT_ HW_ => ?_)
            generalize wr.drew = w36 at aF ak al am af ag ah aq ae HB hx381_0 hx381_1 hx381_2 hx381_3 hx381_4 hx381_5 hx381_6 hx381_7 hx381_8 hHeld ⊢
            refine pure_ (i := 1) (N := some 58) (v := ?_) (a' := ?_) #[false, true, false, false, false, false, false, false, false, false, false, false] rfl rfl (any_of HT_.out (by kernel_rfl)) (fun _ _ _ h => h) (Or.inl ⟨by rfl, ?_⟩) ?_ ?_
            rotate_left
            ·intro w'
             go_simp
             with_reducible rfl
            rotate_left
            ·simp only [Act.put, sT, s0, s1, i64_w, i32_w]
             rfl
            refine pure_ (i := 2) (N := some 59) (v := ?_) (a' := ?_) #[false, true, true, false, false, false, false, false, false, false, false, false] rfl rfl (any_of HT_.out (by kernel_rfl)) (fun _ _ _ h => h) (Or.inl ⟨by rfl, ?_⟩) ?_ ?_
            rotate_left
            ·intro w'
             go_simp
             with_reducible rfl
            rotate_left
            ·simp only [Act.put, sT, s0, s1, i64_w, i32_w]
             rfl
            refine pure_ (i := 3) (N := some 60) (v := ?_) (a' := ?_) #[false, true, true, true, false, false, false, false, false, false, false, false] rfl rfl (any_of HT_.out (by kernel_rfl)) (fun _ _ _ h => h) (Or.inl ⟨by rfl, ?_⟩) ?_ ?_
            rotate_left
            ·intro w'
             go_simp
             with_reducible rfl
            rotate_left
            ·simp only [Act.put, sT, s0, s1, i64_w, i32_w]
             rfl
            refine take_ (i := 0) (N := some 57) (v := ?_) (a' := ?_) #[true, true, true, true, false, false, false, false, false, false, false, false] rfl rfl (take_ofW HT_.out HW_.out (by kernel_rfl)) (fun _ _ _ h => h) (Or.inl ⟨by rfl, ?_⟩) hHeld ?_ ?_
            rotate_left
            ·rintro w' ⟨s0, s1, s2, s3, s4, s5, s6, s7, s8, s9, s10, s11, s12⟩
             go_simp
             with_reducible rfl
            rotate_left
            ·simp only [Act.put, sT, s0, s1, i64_w, i32_w]
             rfl
            refine take_ (i := 4) (N := some 61) (v := ?_) (a' := ?_) #[true, true, true, true, true, false, false, false, false, false, false, false] rfl rfl (take_ofW HT_.out HW_.out (by kernel_rfl)) (fun _ _ _ h => h) (Or.inl ⟨by rfl, ?_⟩) hHeld ?_ ?_
            rotate_left
            ·rintro w' ⟨s0, s1, s2, s3, s4, s5, s6, s7, s8, s9, s10, s11, s12⟩
             go_simp
             with_reducible rfl
            rotate_left
            ·simp only [Act.put, sT, s0, s1, i64_w, i32_w]
             rfl
            refine join_ (σ := Value × Value × Value × Nat) 2 #[true, true, true, true, true, true, true, true, true, true, false, false] (fun s_ => [(62, .tuple #[.agg #[.int .i64 br, s_.1, s_.2.1, s_.2.2.1], .int .i64 bq]), (12, .pointer (some ⟨s_.2.2.2, 0, none⟩)), (56, .tuple #[.agg #[.int .i64 br, s_.1, s_.2.1, s_.2.2.1], .int .i64 bq]), (63, .agg #[.int .i64 br, s_.1, s_.2.1, s_.2.2.1]), (64, .int .i64 bq)]) (fun s_ w' => (w'.cell? ⟨ab, 0, none⟩ = some (.int .i64 ar) ∧ w'.cell? ⟨ab, 1, none⟩ = some (.slice bc ao.length bd) ∧ w'.cell? ⟨ab, 2, none⟩ = some (.slice ba an.length bb) ∧ w'.cell? ⟨ab, 3, none⟩ = some (.slice a8 ai.length a9) ∧ w'.cell? (ap.add ((aa).toNat * 9)) = some (.int .i64 ((rd_T41 aj aa).f0)) ∧ w'.cell? ⟨(ap.add ((aa).toNat * 9)).block, (ap.add ((aa).toNat * 9)).off + 1, none⟩ = some (.int .i64 ((rd_T41 aj aa).f1)) ∧ w'.cell? ⟨(ap.add ((aa).toNat * 9)).block, (ap.add ((aa).toNat * 9)).off + 2, none⟩ = some (.int .i64 ((rd_T41 aj aa).f2)) ∧ w'.cell? ⟨(ap.add ((aa).toNat * 9)).block, (ap.add ((aa).toNat * 9)).off + 3, none⟩ = some (.int .u32 ((rd_T41 aj aa).f3)) ∧ w'.cell? ⟨(ap.add ((aa).toNat * 9)).block, (ap.add ((aa).toNat * 9)).off + 4, none⟩ = some (.string ((rd_T41 aj aa).f4)) ∧ w'.cell? ⟨(ap.add ((aa).toNat * 9)).block, (ap.add ((aa).toNat * 9)).off + 5, none⟩ = some (.int .u64 ((rd_T41 aj aa).f5)) ∧ w'.cell? ⟨(ap.add ((aa).toNat * 9)).block, (ap.add ((aa).toNat * 9)).off + 6, none⟩ = some (.int .u64 ((rd_T41 aj aa).f6)) ∧ w'.cell? ⟨(ap.add ((aa).toNat * 9)).block, (ap.add ((aa).toNat * 9)).off + 7, none⟩ = some (.int .i64 ((rd_T41 aj aa).f7)) ∧ w'.cell? ⟨(ap.add ((aa).toNat * 9)).block, (ap.add ((aa).toNat * 9)).off + 8, none⟩ = some (.int .i64 ((rd_T41 aj aa).f8))) ∧ (Kd.V k76 76 w' w.heap.size (fun k_ => ((au k_ ∨ av k_ ∨ aw k_) ∨ w.heap.size ≤ k_) ∧ k_ ≠ ac ∧ k_ ≠ ab ∧ k_ ≠ s_.2.2.2) s_.1 bs) ∧ (Kd.V k72 72 w' w.heap.size (fun k_ => ((au k_ ∨ av k_ ∨ aw k_) ∨ w.heap.size ≤ k_) ∧ k_ ≠ ac ∧ k_ ≠ ab ∧ k_ ≠ s_.2.2.2) s_.2.1 bt) ∧ (Kd.V k64 64 w' w.heap.size (fun k_ => ((au k_ ∨ av k_ ∨ aw k_) ∨ w.heap.size ≤ k_) ∧ k_ ≠ ac ∧ k_ ≠ ab ∧ k_ ≠ s_.2.2.2) s_.2.2.1 bv) ∧ (Kd.V k41 41 w' w.heap.size (fun k_ => ((au k_ ∨ av k_ ∨ aw k_) ∨ w.heap.size ≤ k_) ∧ k_ ≠ ac ∧ k_ ≠ ab ∧ k_ ≠ s_.2.2.2) (.slice (some ap) aj.length c5) aj) ∧ (Kd.V k76 76 w' w.heap.size (fun k_ => ((au k_ ∨ av k_ ∨ aw k_) ∨ w.heap.size ≤ k_) ∧ k_ ≠ ac ∧ k_ ≠ ab ∧ k_ ≠ s_.2.2.2) (.slice aI ay.length aJ) ay) ∧ (Kd.V k72 72 w' w.heap.size (fun k_ => ((au k_ ∨ av k_ ∨ aw k_) ∨ w.heap.size ≤ k_) ∧ k_ ≠ ac ∧ k_ ≠ ab ∧ k_ ≠ s_.2.2.2) (.slice aK az.length aL) az) ∧ (Kd.V k64 64 w' w.heap.size (fun k_ => ((au k_ ∨ av k_ ∨ aw k_) ∨ w.heap.size ≤ k_) ∧ k_ ≠ ac ∧ k_ ≠ ab ∧ k_ ≠ s_.2.2.2) (.slice aM aA.length aN) aA) ∧ (Kd.V k76 76 w' w.heap.size (fun k_ => ((au k_ ∨ av k_ ∨ aw k_) ∨ w.heap.size ≤ k_) ∧ k_ ≠ ac ∧ k_ ≠ ab ∧ k_ ≠ s_.2.2.2) (.slice bc ao.length bd) ao) ∧ (Kd.V k72 72 w' w.heap.size (fun k_ => ((au k_ ∨ av k_ ∨ aw k_) ∨ w.heap.size ≤ k_) ∧ k_ ≠ ac ∧ k_ ≠ ab ∧ k_ ≠ s_.2.2.2) (.slice ba an.length bb) an) ∧ (Kd.V k64 64 w' w.heap.size (fun k_ => ((au k_ ∨ av k_ ∨ aw k_) ∨ w.heap.size ≤ k_) ∧ k_ ≠ ac ∧ k_ ≠ ab ∧ k_ ≠ s_.2.2.2) (.slice a8 ai.length a9) ai) ∧ (w'.heap[ac]? = some (.cells #[.int .i64 aG, .slice aI ay.length aJ, .slice aK az.length aL, .slice aM aA.length aN, .string aC, .int .i64 ax, .int .u8 aB] 44 (0, 0))) ∧ (w'.heap[ab]? = some (.cells #[.int .i64 ar, .slice bc ao.length bd, .slice ba an.length bb, .slice a8 ai.length a9] 26 (0, 0))) ∧ (w'.heap[s_.2.2.2]? = some (.cells #[.int .i64 0, .slice none 0 0, .slice none 0 0, .slice none 0 0] 26 (0, 0))) ∧ (w.heap.size ≤ s_.2.2.2) ∧ (w.heap.size ≤ s_.2.2.2) ∧ (ac ≠ s_.2.2.2) ∧ (s_.2.2.2 ≠ ac) ∧ (ab ≠ s_.2.2.2) ∧ (s_.2.2.2 ≠ ab) ∧ (Below w.heap.size w w')) ?_ ?_
            rotate_left
            ·intro hCont
             refine two_ (i := 5) (j := 9) (Ni := some 62) (Nj := some 12) #[true, true, true, true, true, true, false, false, false, false, false, false] #[true, true, true, true, true, false, false, false, false, true, false, false] rfl rfl rfl rfl (two_of HT_.out (by kernel_rfl)) (by decide) (by decide) (fun K hK => ?_) (fun K hK => ?_)
             ·skip
              refine goes_ Try.func14 (by kernel_rfl) rfl #[.agg #[.int .i64 ar, .slice bc ao.length bd, .slice ba an.length bb, .slice a8 ai.length a9], .agg #[.int .i64 ((rd_T41 aj aa).f0), .int .i64 ((rd_T41 aj aa).f1), .int .i64 ((rd_T41 aj aa).f2), .int .u32 ((rd_T41 aj aa).f3), .string ((rd_T41 aj aa).f4), .int .u64 ((rd_T41 aj aa).f5), .int .u64 ((rd_T41 aj aa).f6), .int .i64 ((rd_T41 aj aa).f7), .int .i64 ((rd_T41 aj aa).f8)]] (by rfl) rfl rfl (by (try simp only [List.map_toArray, List.map_cons, List.map_nil]); first | done | rfl | (simp only [List.length_drop, List.length_take]; rfl)) ?_
              with_reducible refine (portreeveref04_Apply.calls k3 ar (fun k_ => (((au k_ ∨ av k_ ∨ aw k_) ∨ w.heap.size ≤ k_) ∧ (k_ ≠ ac ∧ k_ ≠ ab))) _ _ ao (fun k_ => (((au k_ ∨ av k_ ∨ aw k_) ∨ w.heap.size ≤ k_) ∧ (k_ ≠ ac ∧ k_ ≠ ab))) _ _ an (fun k_ => (((au k_ ∨ av k_ ∨ aw k_) ∨ w.heap.size ≤ k_) ∧ (k_ ≠ ac ∧ k_ ≠ ab))) _ _ ai ((rd_T41 aj aa).f0) ((rd_T41 aj aa).f1) ((rd_T41 aj aa).f2) ((rd_T41 aj aa).f3) ((rd_T41 aj aa).f4) ((rd_T41 aj aa).f5) ((rd_T41 aj aa).f6) ((rd_T41 aj aa).f7) ((rd_T41 aj aa).f8) br bs bt bv bq _ ?side1 ?side2 ?side3 cP.out).mono ?_
              (case side1 => exact af.out)
              (case side2 => exact ag.out)
              (case side3 => exact ah.out)
              rintro e w37 ⟨v384, v387, v390, rfl, ho0, ho1, ho2, hb⟩
              have HS4_ := (hb.cell (World.block_lt_of_cell? _ _ (hHeld.2.2.2.2.1))).trans (hHeld.2.2.2.2.1)
              have HS5_ := (hb.cell (World.block_lt_of_cell? _ _ (hHeld.2.2.2.2.2.1))).trans (hHeld.2.2.2.2.2.1)
              have HS6_ := (hb.cell (World.block_lt_of_cell? _ _ (hHeld.2.2.2.2.2.2.1))).trans (hHeld.2.2.2.2.2.2.1)
              have HS7_ := (hb.cell (World.block_lt_of_cell? _ _ (hHeld.2.2.2.2.2.2.2.1))).trans (hHeld.2.2.2.2.2.2.2.1)
              have HS8_ := (hb.cell (World.block_lt_of_cell? _ _ (hHeld.2.2.2.2.2.2.2.2.1))).trans (hHeld.2.2.2.2.2.2.2.2.1)
              have HS9_ := (hb.cell (World.block_lt_of_cell? _ _ (hHeld.2.2.2.2.2.2.2.2.2.1))).trans (hHeld.2.2.2.2.2.2.2.2.2.1)
              have HS10_ := (hb.cell (World.block_lt_of_cell? _ _ (hHeld.2.2.2.2.2.2.2.2.2.2.1))).trans (hHeld.2.2.2.2.2.2.2.2.2.2.1)
              have HS11_ := (hb.cell (World.block_lt_of_cell? _ _ (hHeld.2.2.2.2.2.2.2.2.2.2.2.1))).trans (hHeld.2.2.2.2.2.2.2.2.2.2.2.1)
              have HS12_ := (hb.cell (World.block_lt_of_cell? _ _ (hHeld.2.2.2.2.2.2.2.2.2.2.2.2))).trans (hHeld.2.2.2.2.2.2.2.2.2.2.2.2)
              refine ⟨_, rfl, ?_⟩
              have n0_ := Aside0.mk (Kd.V_below (zV aF.out) hb)
              have n1_ := Aside0.mk (Kd.V_below (zV ak.out) hb)
              have n2_ := Aside0.mk (Kd.V_below (zV al.out) hb)
              have n3_ := Aside0.mk (Kd.V_below (zV am.out) hb)
              have n4_ := Aside0.mk (Kd.V_below (zV af.out) hb)
              have n5_ := Aside0.mk (Kd.V_below (zV ag.out) hb)
              have n6_ := Aside0.mk (Kd.V_below (zV ah.out) hb)
              have n7_ := Aside0.mk (Kd.V_lower (Kd.V_mono (ok' := fun k_ => ((au k_ ∨ av k_ ∨ aw k_) ∨ w.heap.size ≤ k_) ∧ k_ ≠ ac ∧ k_ ≠ ab) ho0 (fun k_ hk_ => ⟨Or.elim hk_ (fun hs_ => Or.elim hs_ (fun hs_ => hs_.1) (fun hs_ => Or.elim hs_ (fun hs_ => hs_.1) (fun hs_ => hs_.1))) (fun hn_ => (.inr (Nat.le_trans (below_size (by repeat (first | (with_reducible first | exact HB.out | apply pA | apply pN | apply pD | refine pS ?_ aD.out | refine pS ?_ aE.out) | exact HB.out))) hn_))), Or.elim hk_ (fun hs_ => Or.elim hs_ (fun hs_ => hs_.2.1) (fun hs_ => Or.elim hs_ (fun hs_ => hs_.2.1) (fun hs_ => hs_.2.1))) (fun hn_ => (Kd.freshB (g := ac) (o := .cells #[.int .i64 aG, .slice aI ay.length aJ, .slice aK az.length aL, .slice aM aA.length aN, .string aC, .int .i64 ax, .int .u8 aB] 44 (0, 0)) (zB aq.out) k_ hn_)), Or.elim hk_ (fun hs_ => Or.elim hs_ (fun hs_ => hs_.2.2) (fun hs_ => Or.elim hs_ (fun hs_ => hs_.2.2) (fun hs_ => hs_.2.2))) (fun hn_ => (Kd.freshB (g := ab) (o := .cells #[.int .i64 ar, .slice bc ao.length bd, .slice ba an.length bb, .slice a8 ai.length a9] 26 (0, 0)) (zB ae.out) k_ hn_))⟩)) (below_size (by repeat (first | (with_reducible first | exact HB.out | apply pA | apply pN | apply pD | refine pS ?_ aD.out | refine pS ?_ aE.out) | exact HB.out))))
              have n8_ := Aside0.mk (Kd.V_lower (Kd.V_mono (ok' := fun k_ => ((au k_ ∨ av k_ ∨ aw k_) ∨ w.heap.size ≤ k_) ∧ k_ ≠ ac ∧ k_ ≠ ab) ho1 (fun k_ hk_ => ⟨Or.elim hk_ (fun hs_ => Or.elim hs_ (fun hs_ => hs_.1) (fun hs_ => Or.elim hs_ (fun hs_ => hs_.1) (fun hs_ => hs_.1))) (fun hn_ => (.inr (Nat.le_trans (below_size (by repeat (first | (with_reducible first | exact HB.out | apply pA | apply pN | apply pD | refine pS ?_ aD.out | refine pS ?_ aE.out) | exact HB.out))) hn_))), Or.elim hk_ (fun hs_ => Or.elim hs_ (fun hs_ => hs_.2.1) (fun hs_ => Or.elim hs_ (fun hs_ => hs_.2.1) (fun hs_ => hs_.2.1))) (fun hn_ => (Kd.freshB (g := ac) (o := .cells #[.int .i64 aG, .slice aI ay.length aJ, .slice aK az.length aL, .slice aM aA.length aN, .string aC, .int .i64 ax, .int .u8 aB] 44 (0, 0)) (zB aq.out) k_ hn_)), Or.elim hk_ (fun hs_ => Or.elim hs_ (fun hs_ => hs_.2.2) (fun hs_ => Or.elim hs_ (fun hs_ => hs_.2.2) (fun hs_ => hs_.2.2))) (fun hn_ => (Kd.freshB (g := ab) (o := .cells #[.int .i64 ar, .slice bc ao.length bd, .slice ba an.length bb, .slice a8 ai.length a9] 26 (0, 0)) (zB ae.out) k_ hn_))⟩)) (below_size (by repeat (first | (with_reducible first | exact HB.out | apply pA | apply pN | apply pD | refine pS ?_ aD.out | refine pS ?_ aE.out) | exact HB.out))))
              have n9_ := Aside0.mk (Kd.V_lower (Kd.V_mono (ok' := fun k_ => ((au k_ ∨ av k_ ∨ aw k_) ∨ w.heap.size ≤ k_) ∧ k_ ≠ ac ∧ k_ ≠ ab) ho2 (fun k_ hk_ => ⟨Or.elim hk_ (fun hs_ => Or.elim hs_ (fun hs_ => hs_.1) (fun hs_ => Or.elim hs_ (fun hs_ => hs_.1) (fun hs_ => hs_.1))) (fun hn_ => (.inr (Nat.le_trans (below_size (by repeat (first | (with_reducible first | exact HB.out | apply pA | apply pN | apply pD | refine pS ?_ aD.out | refine pS ?_ aE.out) | exact HB.out))) hn_))), Or.elim hk_ (fun hs_ => Or.elim hs_ (fun hs_ => hs_.2.1) (fun hs_ => Or.elim hs_ (fun hs_ => hs_.2.1) (fun hs_ => hs_.2.1))) (fun hn_ => (Kd.freshB (g := ac) (o := .cells #[.int .i64 aG, .slice aI ay.length aJ, .slice aK az.length aL, .slice aM aA.length aN, .string aC, .int .i64 ax, .int .u8 aB] 44 (0, 0)) (zB aq.out) k_ hn_)), Or.elim hk_ (fun hs_ => Or.elim hs_ (fun hs_ => hs_.2.2) (fun hs_ => Or.elim hs_ (fun hs_ => hs_.2.2) (fun hs_ => hs_.2.2))) (fun hn_ => (Kd.freshB (g := ab) (o := .cells #[.int .i64 ar, .slice bc ao.length bd, .slice ba an.length bb, .slice a8 ai.length a9] 26 (0, 0)) (zB ae.out) k_ hn_))⟩)) (below_size (by repeat (first | (with_reducible first | exact HB.out | apply pA | apply pN | apply pD | refine pS ?_ aD.out | refine pS ?_ aE.out) | exact HB.out))))
              have n10_ := Aside0.mk (blk_below (g := ac) (o := .cells #[.int .i64 aG, .slice aI ay.length aJ, .slice aK az.length aL, .slice aM aA.length aN, .string aC, .int .i64 ax, .int .u8 aB] 44 (0, 0)) (zB aq.out) hb)
              have n11_ := Aside0.mk (blk_below (g := ab) (o := .cells #[.int .i64 ar, .slice bc ao.length bd, .slice ba an.length bb, .slice a8 ai.length a9] 26 (0, 0)) (zB ae.out) hb)
              have n12_ := Aside0.mk (below_step (by repeat (first | (with_reducible first | exact HB.out | apply pA | apply pN | apply pD | refine pS ?_ aD.out | refine pS ?_ aE.out) | exact HB.out)) hb)
              clear aF
              clear ak
              clear al
              clear am
              clear af
              clear ag
              clear ah
              clear aq
              clear ae
              clear HB
              have aF := n0_
              have ak := n1_
              have al := n2_
              have am := n3_
              have af := n4_
              have ag := n5_
              have ah := n6_
              have bl := n7_
              have bm := n8_
              have bn := n9_
              have aq := n10_
              have ae := n11_
              have HB := n12_
              clear n0_ n1_ n2_ n3_ n4_ n5_ n6_ n7_ n8_ n9_ n10_ n11_ n12_
              (try clear hb)
              (try clear hb2)
              (try clear hk)
              (try clear hi)
              (try clear ho0)
              (try clear ho1)
              (try clear ho2)
              refine hK.out _ _ ⟨(blk_cell ae.out 0).trans rfl, (blk_cell ae.out 1).trans rfl, (blk_cell ae.out 2).trans rfl, (blk_cell ae.out 3).trans rfl, HS4_, HS5_, HS6_, HS7_, HS8_, HS9_, HS10_, HS11_, HS12_⟩ (fun hHeld => ?_)
              clear hK K
              refine norm_ (a' := ?_) ?_ ?_
              rotate_left
              ·show Act.put _ (some 62) _ = _
               simp only [Act.put, sT, s0, s1, i64_w, i32_w]
               rfl
              refine pure_ (i := 6) (N := some 56) (v := ?_) (a' := ?_) #[true, true, true, true, true, true, true, false, false, false, false, false] rfl rfl (any_of HT_.out (by kernel_rfl)) (fun _ _ _ h => h) (Or.inl ⟨by rfl, ?_⟩) ?_ ?_
              rotate_left
              ·intro w'
               go_simp
               with_reducible rfl
              rotate_left
              ·simp only [Act.put, sT, s0, s1, i64_w, i32_w]
               rfl
              refine pure_ (i := 7) (N := some 63) (v := ?_) (a' := ?_) #[true, true, true, true, true, true, true, true, false, false, false, false] rfl rfl (any_of HT_.out (by kernel_rfl)) (fun _ _ _ h => h) (Or.inl ⟨by rfl, ?_⟩) ?_ ?_
              rotate_left
              ·intro w'
               go_simp
               with_reducible rfl
              rotate_left
              ·simp only [Act.put, sT, s0, s1, i64_w, i32_w]
               rfl
              refine pure_ (i := 8) (N := some 64) (v := ?_) (a' := ?_) #[true, true, true, true, true, true, true, true, true, false, false, false] rfl rfl (any_of HT_.out (by kernel_rfl)) (fun _ _ _ h => h) (Or.inl ⟨by rfl, ?_⟩) ?_ ?_
              rotate_left
              ·intro w'
               go_simp
               with_reducible rfl
              rotate_left
              ·simp only [Act.put, sT, s0, s1, i64_w, i32_w]
               rfl
              refine one_ (i := 9) (N := some 12) #[true, true, true, true, true, true, true, true, true, true, false, false] rfl rfl (one_of HT_.out (by kernel_rfl)) (by decide) (fun K hK => ?_)
              refine box_step ?hg (N := 12) ?hd (cs := #[.int .i64 0, .slice none 0 0, .slice none 0 0, .slice none 0 0]) (t := 26) ?hr ?_; (case hd => rfl); (case hg => rfl); (case hr => first | (go_simp; done) | (go_simp; rfl))
              intro ad hg w38 hbox hb
              have HS4_ := (hb.cell (World.block_lt_of_cell? _ _ (hHeld.2.2.2.2.1))).trans (hHeld.2.2.2.2.1)
              have HS5_ := (hb.cell (World.block_lt_of_cell? _ _ (hHeld.2.2.2.2.2.1))).trans (hHeld.2.2.2.2.2.1)
              have HS6_ := (hb.cell (World.block_lt_of_cell? _ _ (hHeld.2.2.2.2.2.2.1))).trans (hHeld.2.2.2.2.2.2.1)
              have HS7_ := (hb.cell (World.block_lt_of_cell? _ _ (hHeld.2.2.2.2.2.2.2.1))).trans (hHeld.2.2.2.2.2.2.2.1)
              have HS8_ := (hb.cell (World.block_lt_of_cell? _ _ (hHeld.2.2.2.2.2.2.2.2.1))).trans (hHeld.2.2.2.2.2.2.2.2.1)
              have HS9_ := (hb.cell (World.block_lt_of_cell? _ _ (hHeld.2.2.2.2.2.2.2.2.2.1))).trans (hHeld.2.2.2.2.2.2.2.2.2.1)
              have HS10_ := (hb.cell (World.block_lt_of_cell? _ _ (hHeld.2.2.2.2.2.2.2.2.2.2.1))).trans (hHeld.2.2.2.2.2.2.2.2.2.2.1)
              have HS11_ := (hb.cell (World.block_lt_of_cell? _ _ (hHeld.2.2.2.2.2.2.2.2.2.2.2.1))).trans (hHeld.2.2.2.2.2.2.2.2.2.2.2.1)
              have HS12_ := (hb.cell (World.block_lt_of_cell? _ _ (hHeld.2.2.2.2.2.2.2.2.2.2.2.2))).trans (hHeld.2.2.2.2.2.2.2.2.2.2.2.2)
              have n0_ := Aside0.mk (Kd.V_below (Kd.V_elderB (zV aF.out) ad (Nat.le_of_eq hg.symm)) hb)
              have n1_ := Aside0.mk (Kd.V_below (Kd.V_elderB (zV ak.out) ad (Nat.le_of_eq hg.symm)) hb)
              have n2_ := Aside0.mk (Kd.V_below (Kd.V_elderB (zV al.out) ad (Nat.le_of_eq hg.symm)) hb)
              have n3_ := Aside0.mk (Kd.V_below (Kd.V_elderB (zV am.out) ad (Nat.le_of_eq hg.symm)) hb)
              have n4_ := Aside0.mk (Kd.V_below (Kd.V_elderB (zV af.out) ad (Nat.le_of_eq hg.symm)) hb)
              have n5_ := Aside0.mk (Kd.V_below (Kd.V_elderB (zV ag.out) ad (Nat.le_of_eq hg.symm)) hb)
              have n6_ := Aside0.mk (Kd.V_below (Kd.V_elderB (zV ah.out) ad (Nat.le_of_eq hg.symm)) hb)
              have n7_ := Aside0.mk (Kd.V_below (Kd.V_elderB (zV bl.out) ad (Nat.le_of_eq hg.symm)) hb)
              have n8_ := Aside0.mk (Kd.V_below (Kd.V_elderB (zV bm.out) ad (Nat.le_of_eq hg.symm)) hb)
              have n9_ := Aside0.mk (Kd.V_below (Kd.V_elderB (zV bn.out) ad (Nat.le_of_eq hg.symm)) hb)
              have n10_ := Aside0.mk (blk_below (g := ac) (o := .cells #[.int .i64 aG, .slice aI ay.length aJ, .slice aK az.length aL, .slice aM aA.length aN, .string aC, .int .i64 ax, .int .u8 aB] 44 (0, 0)) (zB aq.out) hb)
              have n11_ := Aside0.mk (blk_below (g := ab) (o := .cells #[.int .i64 ar, .slice bc ao.length bd, .slice ba an.length bb, .slice a8 ai.length a9] 26 (0, 0)) (zB ae.out) hb)
              have n12_ := Aside0.mk (below_step (by repeat (first | (with_reducible first | exact HB.out | apply pA | apply pN | apply pD | refine pS ?_ aD.out | refine pS ?_ aE.out) | exact HB.out)) hb)
              have n13_ := Aside0.mk (hbox)
              have n14_ := Aside0.mk ((by rw [hg]; exact (below_size (by repeat (first | (with_reducible first | exact HB.out | apply pA | apply pN | apply pD | refine pS ?_ aD.out | refine pS ?_ aE.out) | exact HB.out))) : w.heap.size ≤ ad))
              have n15_ := Aside0.mk ((by rw [hg]; exact (below_size (by repeat (first | (with_reducible first | exact HB.out | apply pA | apply pN | apply pD | refine pS ?_ aD.out | refine pS ?_ aE.out) | exact HB.out))) : w.heap.size ≤ ad))
              have n16_ := Aside0.mk ((by rw [hg]; exact Nat.ne_of_lt (blk_lt (g := ac) (o := .cells #[.int .i64 aG, .slice aI ay.length aJ, .slice aK az.length aL, .slice aM aA.length aN, .string aC, .int .i64 ax, .int .u8 aB] 44 (0, 0)) (zB aq.out)) : ac ≠ ad))
              have n17_ := Aside0.mk ((by rw [hg]; exact Nat.ne_of_gt (blk_lt (g := ac) (o := .cells #[.int .i64 aG, .slice aI ay.length aJ, .slice aK az.length aL, .slice aM aA.length aN, .string aC, .int .i64 ax, .int .u8 aB] 44 (0, 0)) (zB aq.out)) : ad ≠ ac))
              have n18_ := Aside0.mk ((by rw [hg]; exact Nat.ne_of_lt (blk_lt (g := ab) (o := .cells #[.int .i64 ar, .slice bc ao.length bd, .slice ba an.length bb, .slice a8 ai.length a9] 26 (0, 0)) (zB ae.out)) : ab ≠ ad))
              have n19_ := Aside0.mk ((by rw [hg]; exact Nat.ne_of_gt (blk_lt (g := ab) (o := .cells #[.int .i64 ar, .slice bc ao.length bd, .slice ba an.length bb, .slice a8 ai.length a9] 26 (0, 0)) (zB ae.out)) : ad ≠ ab))
              clear aF
              clear ak
              clear al
              clear am
              clear af
              clear ag
              clear ah
              clear bl
              clear bm
              clear bn
              clear aq
              clear ae
              clear HB
              have aF := n0_
              have ak := n1_
              have al := n2_
              have am := n3_
              have af := n4_
              have ag := n5_
              have ah := n6_
              have bl := n7_
              have bm := n8_
              have bn := n9_
              have aq := n10_
              have ae := n11_
              have HB := n12_
              have aS := n13_
              have bu := n14_
              have aW := n15_
              have aT := n16_
              have aV := n17_
              have aH := n18_
              have aU := n19_
              clear n0_ n1_ n2_ n3_ n4_ n5_ n6_ n7_ n8_ n9_ n10_ n11_ n12_ n13_ n14_ n15_ n16_ n17_ n18_ n19_
              clear hb hbox hg
              refine hK.out _ _ ⟨(blk_cell ae.out 0).trans rfl, (blk_cell ae.out 1).trans rfl, (blk_cell ae.out 2).trans rfl, (blk_cell ae.out 3).trans rfl, HS4_, HS5_, HS6_, HS7_, HS8_, HS9_, HS10_, HS11_, HS12_⟩ (fun hHeld => ?_)
              clear hK K
              refine norm_ (a' := ?_) ?_ ?_
              rotate_left
              ·show Act.put _ (some 12) _ = _
               simp only [Act.put, sT, s0, s1, i64_w, i32_w]
               rfl
              exact norm_ (by simp only [putAll, Act.put, sT, s0, s1]) (hCont (v384, v387, v390, ad) _ ⟨hHeld, (zV (Kd.V_mono bl.out (fun _ hk => ⟨hk.1.1, ⟨hk.1.2.1, ⟨hk.1.2.2, hk.2⟩⟩⟩))), (zV (Kd.V_mono bm.out (fun _ hk => ⟨hk.1.1, ⟨hk.1.2.1, ⟨hk.1.2.2, hk.2⟩⟩⟩))), (zV (Kd.V_mono bn.out (fun _ hk => ⟨hk.1.1, ⟨hk.1.2.1, ⟨hk.1.2.2, hk.2⟩⟩⟩))), (zV (Kd.V_mono aF.out (fun _ hk => ⟨hk.1.1, ⟨hk.1.2.1, ⟨hk.1.2.2, hk.2⟩⟩⟩))), (zV (Kd.V_mono ak.out (fun _ hk => ⟨hk.1.1, ⟨hk.1.2.1, ⟨hk.1.2.2, hk.2⟩⟩⟩))), (zV (Kd.V_mono al.out (fun _ hk => ⟨hk.1.1, ⟨hk.1.2.1, ⟨hk.1.2.2, hk.2⟩⟩⟩))), (zV (Kd.V_mono am.out (fun _ hk => ⟨hk.1.1, ⟨hk.1.2.1, ⟨hk.1.2.2, hk.2⟩⟩⟩))), (zV (Kd.V_mono af.out (fun _ hk => ⟨hk.1.1, ⟨hk.1.2.1, ⟨hk.1.2.2, hk.2⟩⟩⟩))), (zV (Kd.V_mono ag.out (fun _ hk => ⟨hk.1.1, ⟨hk.1.2.1, ⟨hk.1.2.2, hk.2⟩⟩⟩))), (zV (Kd.V_mono ah.out (fun _ hk => ⟨hk.1.1, ⟨hk.1.2.1, ⟨hk.1.2.2, hk.2⟩⟩⟩))), (zB aq.out), (zB ae.out), (zB aS.out), bu.out, aW.out, aT.out, aV.out, aH.out, aU.out, (by repeat (first | (with_reducible first | exact HB.out | apply pA | apply pN | apply pD | refine pS ?_ aD.out | refine pS ?_ aE.out | refine pS ?_ aW.out) | exact HB.out))⟩)
             ·skip
              refine box_step ?hg (N := 12) ?hd (cs := #[.int .i64 0, .slice none 0 0, .slice none 0 0, .slice none 0 0]) (t := 26) ?hr ?_; (case hd => rfl); (case hg => rfl); (case hr => first | (go_simp; done) | (go_simp; rfl))
              intro ad hg w37 hbox hb
              have HS4_ := (hb.cell (World.block_lt_of_cell? _ _ (hHeld.2.2.2.2.1))).trans (hHeld.2.2.2.2.1)
              have HS5_ := (hb.cell (World.block_lt_of_cell? _ _ (hHeld.2.2.2.2.2.1))).trans (hHeld.2.2.2.2.2.1)
              have HS6_ := (hb.cell (World.block_lt_of_cell? _ _ (hHeld.2.2.2.2.2.2.1))).trans (hHeld.2.2.2.2.2.2.1)
              have HS7_ := (hb.cell (World.block_lt_of_cell? _ _ (hHeld.2.2.2.2.2.2.2.1))).trans (hHeld.2.2.2.2.2.2.2.1)
              have HS8_ := (hb.cell (World.block_lt_of_cell? _ _ (hHeld.2.2.2.2.2.2.2.2.1))).trans (hHeld.2.2.2.2.2.2.2.2.1)
              have HS9_ := (hb.cell (World.block_lt_of_cell? _ _ (hHeld.2.2.2.2.2.2.2.2.2.1))).trans (hHeld.2.2.2.2.2.2.2.2.2.1)
              have HS10_ := (hb.cell (World.block_lt_of_cell? _ _ (hHeld.2.2.2.2.2.2.2.2.2.2.1))).trans (hHeld.2.2.2.2.2.2.2.2.2.2.1)
              have HS11_ := (hb.cell (World.block_lt_of_cell? _ _ (hHeld.2.2.2.2.2.2.2.2.2.2.2.1))).trans (hHeld.2.2.2.2.2.2.2.2.2.2.2.1)
              have HS12_ := (hb.cell (World.block_lt_of_cell? _ _ (hHeld.2.2.2.2.2.2.2.2.2.2.2.2))).trans (hHeld.2.2.2.2.2.2.2.2.2.2.2.2)
              have n0_ := Aside0.mk (Kd.V_below (Kd.V_elderB (zV aF.out) ad (Nat.le_of_eq hg.symm)) hb)
              have n1_ := Aside0.mk (Kd.V_below (Kd.V_elderB (zV ak.out) ad (Nat.le_of_eq hg.symm)) hb)
              have n2_ := Aside0.mk (Kd.V_below (Kd.V_elderB (zV al.out) ad (Nat.le_of_eq hg.symm)) hb)
              have n3_ := Aside0.mk (Kd.V_below (Kd.V_elderB (zV am.out) ad (Nat.le_of_eq hg.symm)) hb)
              have n4_ := Aside0.mk (Kd.V_below (Kd.V_elderB (zV af.out) ad (Nat.le_of_eq hg.symm)) hb)
              have n5_ := Aside0.mk (Kd.V_below (Kd.V_elderB (zV ag.out) ad (Nat.le_of_eq hg.symm)) hb)
              have n6_ := Aside0.mk (Kd.V_below (Kd.V_elderB (zV ah.out) ad (Nat.le_of_eq hg.symm)) hb)
              have n7_ := Aside0.mk (blk_below (g := ac) (o := .cells #[.int .i64 aG, .slice aI ay.length aJ, .slice aK az.length aL, .slice aM aA.length aN, .string aC, .int .i64 ax, .int .u8 aB] 44 (0, 0)) (zB aq.out) hb)
              have n8_ := Aside0.mk (blk_below (g := ab) (o := .cells #[.int .i64 ar, .slice bc ao.length bd, .slice ba an.length bb, .slice a8 ai.length a9] 26 (0, 0)) (zB ae.out) hb)
              have n9_ := Aside0.mk (below_step (by repeat (first | (with_reducible first | exact HB.out | apply pA | apply pN | apply pD | refine pS ?_ aD.out | refine pS ?_ aE.out) | exact HB.out)) hb)
              have n10_ := Aside0.mk (hbox)
              have n11_ := Aside0.mk ((by rw [hg]; exact (below_size (by repeat (first | (with_reducible first | exact HB.out | apply pA | apply pN | apply pD | refine pS ?_ aD.out | refine pS ?_ aE.out) | exact HB.out))) : w.heap.size ≤ ad))
              have n12_ := Aside0.mk ((by rw [hg]; exact (below_size (by repeat (first | (with_reducible first | exact HB.out | apply pA | apply pN | apply pD | refine pS ?_ aD.out | refine pS ?_ aE.out) | exact HB.out))) : w.heap.size ≤ ad))
              have n13_ := Aside0.mk ((by rw [hg]; exact Nat.ne_of_lt (blk_lt (g := ac) (o := .cells #[.int .i64 aG, .slice aI ay.length aJ, .slice aK az.length aL, .slice aM aA.length aN, .string aC, .int .i64 ax, .int .u8 aB] 44 (0, 0)) (zB aq.out)) : ac ≠ ad))
              have n14_ := Aside0.mk ((by rw [hg]; exact Nat.ne_of_gt (blk_lt (g := ac) (o := .cells #[.int .i64 aG, .slice aI ay.length aJ, .slice aK az.length aL, .slice aM aA.length aN, .string aC, .int .i64 ax, .int .u8 aB] 44 (0, 0)) (zB aq.out)) : ad ≠ ac))
              have n15_ := Aside0.mk ((by rw [hg]; exact Nat.ne_of_lt (blk_lt (g := ab) (o := .cells #[.int .i64 ar, .slice bc ao.length bd, .slice ba an.length bb, .slice a8 ai.length a9] 26 (0, 0)) (zB ae.out)) : ab ≠ ad))
              have n16_ := Aside0.mk ((by rw [hg]; exact Nat.ne_of_gt (blk_lt (g := ab) (o := .cells #[.int .i64 ar, .slice bc ao.length bd, .slice ba an.length bb, .slice a8 ai.length a9] 26 (0, 0)) (zB ae.out)) : ad ≠ ab))
              clear aF
              clear ak
              clear al
              clear am
              clear af
              clear ag
              clear ah
              clear aq
              clear ae
              clear HB
              have aF := n0_
              have ak := n1_
              have al := n2_
              have am := n3_
              have af := n4_
              have ag := n5_
              have ah := n6_
              have aq := n7_
              have ae := n8_
              have HB := n9_
              have aS := n10_
              have bu := n11_
              have aW := n12_
              have aT := n13_
              have aV := n14_
              have aH := n15_
              have aU := n16_
              clear n0_ n1_ n2_ n3_ n4_ n5_ n6_ n7_ n8_ n9_ n10_ n11_ n12_ n13_ n14_ n15_ n16_
              clear hb hbox hg
              refine hK.out _ _ ⟨(blk_cell ae.out 0).trans rfl, (blk_cell ae.out 1).trans rfl, (blk_cell ae.out 2).trans rfl, (blk_cell ae.out 3).trans rfl, HS4_, HS5_, HS6_, HS7_, HS8_, HS9_, HS10_, HS11_, HS12_⟩ (fun hHeld => ?_)
              clear hK K
              refine norm_ (a' := ?_) ?_ ?_
              rotate_left
              ·show Act.put _ (some 12) _ = _
               simp only [Act.put, sT, s0, s1, i64_w, i32_w]
               rfl
              refine one_ (i := 5) (N := some 62) #[true, true, true, true, true, true, false, false, false, true, false, false] rfl rfl (one_of HT_.out (by kernel_rfl)) (by decide) (fun K hK => ?_)
              refine goes_ Try.func14 (by kernel_rfl) rfl #[.agg #[.int .i64 ar, .slice bc ao.length bd, .slice ba an.length bb, .slice a8 ai.length a9], .agg #[.int .i64 ((rd_T41 aj aa).f0), .int .i64 ((rd_T41 aj aa).f1), .int .i64 ((rd_T41 aj aa).f2), .int .u32 ((rd_T41 aj aa).f3), .string ((rd_T41 aj aa).f4), .int .u64 ((rd_T41 aj aa).f5), .int .u64 ((rd_T41 aj aa).f6), .int .i64 ((rd_T41 aj aa).f7), .int .i64 ((rd_T41 aj aa).f8)]] (by rfl) rfl rfl (by (try simp only [List.map_toArray, List.map_cons, List.map_nil]); first | done | rfl | (simp only [List.length_drop, List.length_take]; rfl)) ?_
              with_reducible refine (portreeveref04_Apply.calls k3 ar (fun k_ => ((((au k_ ∨ av k_ ∨ aw k_) ∨ w.heap.size ≤ k_) ∧ (k_ ≠ ac ∧ k_ ≠ ab)) ∧ k_ ≠ ad)) _ _ ao (fun k_ => ((((au k_ ∨ av k_ ∨ aw k_) ∨ w.heap.size ≤ k_) ∧ (k_ ≠ ac ∧ k_ ≠ ab)) ∧ k_ ≠ ad)) _ _ an (fun k_ => ((((au k_ ∨ av k_ ∨ aw k_) ∨ w.heap.size ≤ k_) ∧ (k_ ≠ ac ∧ k_ ≠ ab)) ∧ k_ ≠ ad)) _ _ ai ((rd_T41 aj aa).f0) ((rd_T41 aj aa).f1) ((rd_T41 aj aa).f2) ((rd_T41 aj aa).f3) ((rd_T41 aj aa).f4) ((rd_T41 aj aa).f5) ((rd_T41 aj aa).f6) ((rd_T41 aj aa).f7) ((rd_T41 aj aa).f8) br bs bt bv bq _ ?side1 ?side2 ?side3 cP.out).mono ?_
              (case side1 => exact af.out)
              (case side2 => exact ag.out)
              (case side3 => exact ah.out)
              rintro e w38 ⟨v384, v387, v390, rfl, ho0, ho1, ho2, hb⟩
              have HS4_ := (hb.cell (World.block_lt_of_cell? _ _ (hHeld.2.2.2.2.1))).trans (hHeld.2.2.2.2.1)
              have HS5_ := (hb.cell (World.block_lt_of_cell? _ _ (hHeld.2.2.2.2.2.1))).trans (hHeld.2.2.2.2.2.1)
              have HS6_ := (hb.cell (World.block_lt_of_cell? _ _ (hHeld.2.2.2.2.2.2.1))).trans (hHeld.2.2.2.2.2.2.1)
              have HS7_ := (hb.cell (World.block_lt_of_cell? _ _ (hHeld.2.2.2.2.2.2.2.1))).trans (hHeld.2.2.2.2.2.2.2.1)
              have HS8_ := (hb.cell (World.block_lt_of_cell? _ _ (hHeld.2.2.2.2.2.2.2.2.1))).trans (hHeld.2.2.2.2.2.2.2.2.1)
              have HS9_ := (hb.cell (World.block_lt_of_cell? _ _ (hHeld.2.2.2.2.2.2.2.2.2.1))).trans (hHeld.2.2.2.2.2.2.2.2.2.1)
              have HS10_ := (hb.cell (World.block_lt_of_cell? _ _ (hHeld.2.2.2.2.2.2.2.2.2.2.1))).trans (hHeld.2.2.2.2.2.2.2.2.2.2.1)
              have HS11_ := (hb.cell (World.block_lt_of_cell? _ _ (hHeld.2.2.2.2.2.2.2.2.2.2.2.1))).trans (hHeld.2.2.2.2.2.2.2.2.2.2.2.1)
              have HS12_ := (hb.cell (World.block_lt_of_cell? _ _ (hHeld.2.2.2.2.2.2.2.2.2.2.2.2))).trans (hHeld.2.2.2.2.2.2.2.2.2.2.2.2)
              refine ⟨_, rfl, ?_⟩
              have n0_ := Aside0.mk (Kd.V_below (zV aF.out) hb)
              have n1_ := Aside0.mk (Kd.V_below (zV ak.out) hb)
              have n2_ := Aside0.mk (Kd.V_below (zV al.out) hb)
              have n3_ := Aside0.mk (Kd.V_below (zV am.out) hb)
              have n4_ := Aside0.mk (Kd.V_below (zV af.out) hb)
              have n5_ := Aside0.mk (Kd.V_below (zV ag.out) hb)
              have n6_ := Aside0.mk (Kd.V_below (zV ah.out) hb)
              have n7_ := Aside0.mk (Kd.V_lower (Kd.V_mono (ok' := fun k_ => ((au k_ ∨ av k_ ∨ aw k_) ∨ w.heap.size ≤ k_) ∧ k_ ≠ ac ∧ k_ ≠ ab ∧ k_ ≠ ad) ho0 (fun k_ hk_ => ⟨Or.elim hk_ (fun hs_ => Or.elim hs_ (fun hs_ => hs_.1.1) (fun hs_ => Or.elim hs_ (fun hs_ => hs_.1.1) (fun hs_ => hs_.1.1))) (fun hn_ => (.inr (Nat.le_trans (below_size (by repeat (first | (with_reducible first | exact HB.out | apply pA | apply pN | apply pD | refine pS ?_ aD.out | refine pS ?_ aE.out | refine pS ?_ aW.out) | exact HB.out))) hn_))), Or.elim hk_ (fun hs_ => Or.elim hs_ (fun hs_ => hs_.1.2.1) (fun hs_ => Or.elim hs_ (fun hs_ => hs_.1.2.1) (fun hs_ => hs_.1.2.1))) (fun hn_ => (Kd.freshB (g := ac) (o := .cells #[.int .i64 aG, .slice aI ay.length aJ, .slice aK az.length aL, .slice aM aA.length aN, .string aC, .int .i64 ax, .int .u8 aB] 44 (0, 0)) (zB aq.out) k_ hn_)), Or.elim hk_ (fun hs_ => Or.elim hs_ (fun hs_ => hs_.1.2.2) (fun hs_ => Or.elim hs_ (fun hs_ => hs_.1.2.2) (fun hs_ => hs_.1.2.2))) (fun hn_ => (Kd.freshB (g := ab) (o := .cells #[.int .i64 ar, .slice bc ao.length bd, .slice ba an.length bb, .slice a8 ai.length a9] 26 (0, 0)) (zB ae.out) k_ hn_)), Or.elim hk_ (fun hs_ => Or.elim hs_ (fun hs_ => hs_.2) (fun hs_ => Or.elim hs_ (fun hs_ => hs_.2) (fun hs_ => hs_.2))) (fun hn_ => (Kd.freshB (g := ad) (o := .cells #[.int .i64 0, .slice none 0 0, .slice none 0 0, .slice none 0 0] 26 (0, 0)) (zB aS.out) k_ hn_))⟩)) (below_size (by repeat (first | (with_reducible first | exact HB.out | apply pA | apply pN | apply pD | refine pS ?_ aD.out | refine pS ?_ aE.out | refine pS ?_ aW.out) | exact HB.out))))
              have n8_ := Aside0.mk (Kd.V_lower (Kd.V_mono (ok' := fun k_ => ((au k_ ∨ av k_ ∨ aw k_) ∨ w.heap.size ≤ k_) ∧ k_ ≠ ac ∧ k_ ≠ ab ∧ k_ ≠ ad) ho1 (fun k_ hk_ => ⟨Or.elim hk_ (fun hs_ => Or.elim hs_ (fun hs_ => hs_.1.1) (fun hs_ => Or.elim hs_ (fun hs_ => hs_.1.1) (fun hs_ => hs_.1.1))) (fun hn_ => (.inr (Nat.le_trans (below_size (by repeat (first | (with_reducible first | exact HB.out | apply pA | apply pN | apply pD | refine pS ?_ aD.out | refine pS ?_ aE.out | refine pS ?_ aW.out) | exact HB.out))) hn_))), Or.elim hk_ (fun hs_ => Or.elim hs_ (fun hs_ => hs_.1.2.1) (fun hs_ => Or.elim hs_ (fun hs_ => hs_.1.2.1) (fun hs_ => hs_.1.2.1))) (fun hn_ => (Kd.freshB (g := ac) (o := .cells #[.int .i64 aG, .slice aI ay.length aJ, .slice aK az.length aL, .slice aM aA.length aN, .string aC, .int .i64 ax, .int .u8 aB] 44 (0, 0)) (zB aq.out) k_ hn_)), Or.elim hk_ (fun hs_ => Or.elim hs_ (fun hs_ => hs_.1.2.2) (fun hs_ => Or.elim hs_ (fun hs_ => hs_.1.2.2) (fun hs_ => hs_.1.2.2))) (fun hn_ => (Kd.freshB (g := ab) (o := .cells #[.int .i64 ar, .slice bc ao.length bd, .slice ba an.length bb, .slice a8 ai.length a9] 26 (0, 0)) (zB ae.out) k_ hn_)), Or.elim hk_ (fun hs_ => Or.elim hs_ (fun hs_ => hs_.2) (fun hs_ => Or.elim hs_ (fun hs_ => hs_.2) (fun hs_ => hs_.2))) (fun hn_ => (Kd.freshB (g := ad) (o := .cells #[.int .i64 0, .slice none 0 0, .slice none 0 0, .slice none 0 0] 26 (0, 0)) (zB aS.out) k_ hn_))⟩)) (below_size (by repeat (first | (with_reducible first | exact HB.out | apply pA | apply pN | apply pD | refine pS ?_ aD.out | refine pS ?_ aE.out | refine pS ?_ aW.out) | exact HB.out))))
              have n9_ := Aside0.mk (Kd.V_lower (Kd.V_mono (ok' := fun k_ => ((au k_ ∨ av k_ ∨ aw k_) ∨ w.heap.size ≤ k_) ∧ k_ ≠ ac ∧ k_ ≠ ab ∧ k_ ≠ ad) ho2 (fun k_ hk_ => ⟨Or.elim hk_ (fun hs_ => Or.elim hs_ (fun hs_ => hs_.1.1) (fun hs_ => Or.elim hs_ (fun hs_ => hs_.1.1) (fun hs_ => hs_.1.1))) (fun hn_ => (.inr (Nat.le_trans (below_size (by repeat (first | (with_reducible first | exact HB.out | apply pA | apply pN | apply pD | refine pS ?_ aD.out | refine pS ?_ aE.out | refine pS ?_ aW.out) | exact HB.out))) hn_))), Or.elim hk_ (fun hs_ => Or.elim hs_ (fun hs_ => hs_.1.2.1) (fun hs_ => Or.elim hs_ (fun hs_ => hs_.1.2.1) (fun hs_ => hs_.1.2.1))) (fun hn_ => (Kd.freshB (g := ac) (o := .cells #[.int .i64 aG, .slice aI ay.length aJ, .slice aK az.length aL, .slice aM aA.length aN, .string aC, .int .i64 ax, .int .u8 aB] 44 (0, 0)) (zB aq.out) k_ hn_)), Or.elim hk_ (fun hs_ => Or.elim hs_ (fun hs_ => hs_.1.2.2) (fun hs_ => Or.elim hs_ (fun hs_ => hs_.1.2.2) (fun hs_ => hs_.1.2.2))) (fun hn_ => (Kd.freshB (g := ab) (o := .cells #[.int .i64 ar, .slice bc ao.length bd, .slice ba an.length bb, .slice a8 ai.length a9] 26 (0, 0)) (zB ae.out) k_ hn_)), Or.elim hk_ (fun hs_ => Or.elim hs_ (fun hs_ => hs_.2) (fun hs_ => Or.elim hs_ (fun hs_ => hs_.2) (fun hs_ => hs_.2))) (fun hn_ => (Kd.freshB (g := ad) (o := .cells #[.int .i64 0, .slice none 0 0, .slice none 0 0, .slice none 0 0] 26 (0, 0)) (zB aS.out) k_ hn_))⟩)) (below_size (by repeat (first | (with_reducible first | exact HB.out | apply pA | apply pN | apply pD | refine pS ?_ aD.out | refine pS ?_ aE.out | refine pS ?_ aW.out) | exact HB.out))))
              have n10_ := Aside0.mk (blk_below (g := ac) (o := .cells #[.int .i64 aG, .slice aI ay.length aJ, .slice aK az.length aL, .slice aM aA.length aN, .string aC, .int .i64 ax, .int .u8 aB] 44 (0, 0)) (zB aq.out) hb)
              have n11_ := Aside0.mk (blk_below (g := ab) (o := .cells #[.int .i64 ar, .slice bc ao.length bd, .slice ba an.length bb, .slice a8 ai.length a9] 26 (0, 0)) (zB ae.out) hb)
              have n12_ := Aside0.mk (blk_below (g := ad) (o := .cells #[.int .i64 0, .slice none 0 0, .slice none 0 0, .slice none 0 0] 26 (0, 0)) (zB aS.out) hb)
              have n13_ := Aside0.mk (below_step (by repeat (first | (with_reducible first | exact HB.out | apply pA | apply pN | apply pD | refine pS ?_ aD.out | refine pS ?_ aE.out | refine pS ?_ aW.out) | exact HB.out)) hb)
              clear aF
              clear ak
              clear al
              clear am
              clear af
              clear ag
              clear ah
              clear aq
              clear ae
              clear aS
              clear HB
              have aF := n0_
              have ak := n1_
              have al := n2_
              have am := n3_
              have af := n4_
              have ag := n5_
              have ah := n6_
              have bl := n7_
              have bm := n8_
              have bn := n9_
              have aq := n10_
              have ae := n11_
              have aS := n12_
              have HB := n13_
              clear n0_ n1_ n2_ n3_ n4_ n5_ n6_ n7_ n8_ n9_ n10_ n11_ n12_ n13_
              (try clear hb)
              (try clear hb2)
              (try clear hk)
              (try clear hi)
              (try clear ho0)
              (try clear ho1)
              (try clear ho2)
              refine hK.out _ _ ⟨(blk_cell ae.out 0).trans rfl, (blk_cell ae.out 1).trans rfl, (blk_cell ae.out 2).trans rfl, (blk_cell ae.out 3).trans rfl, HS4_, HS5_, HS6_, HS7_, HS8_, HS9_, HS10_, HS11_, HS12_⟩ (fun hHeld => ?_)
              clear hK K
              refine norm_ (a' := ?_) ?_ ?_
              rotate_left
              ·show Act.put _ (some 62) _ = _
               simp only [Act.put, sT, s0, s1, i64_w, i32_w]
               rfl
              refine pure_ (i := 6) (N := some 56) (v := ?_) (a' := ?_) #[true, true, true, true, true, true, true, false, false, true, false, false] rfl rfl (any_of HT_.out (by kernel_rfl)) (fun _ _ _ h => h) (Or.inl ⟨by rfl, ?_⟩) ?_ ?_
              rotate_left
              ·intro w'
               go_simp
               with_reducible rfl
              rotate_left
              ·simp only [Act.put, sT, s0, s1, i64_w, i32_w]
               rfl
              refine pure_ (i := 7) (N := some 63) (v := ?_) (a' := ?_) #[true, true, true, true, true, true, true, true, false, true, false, false] rfl rfl (any_of HT_.out (by kernel_rfl)) (fun _ _ _ h => h) (Or.inl ⟨by rfl, ?_⟩) ?_ ?_
              rotate_left
              ·intro w'
               go_simp
               with_reducible rfl
              rotate_left
              ·simp only [Act.put, sT, s0, s1, i64_w, i32_w]
               rfl
              refine pure_ (i := 8) (N := some 64) (v := ?_) (a' := ?_) #[true, true, true, true, true, true, true, true, true, true, false, false] rfl rfl (any_of HT_.out (by kernel_rfl)) (fun _ _ _ h => h) (Or.inl ⟨by rfl, ?_⟩) ?_ ?_
              rotate_left
              ·intro w'
               go_simp
               with_reducible rfl
              rotate_left
              ·simp only [Act.put, sT, s0, s1, i64_w, i32_w]
               rfl
              exact norm_ (by simp only [putAll, Act.put, sT, s0, s1]) (hCont (v384, v387, v390, ad) _ ⟨hHeld, (zV bl.out), (zV bm.out), (zV bn.out), (zV (Kd.V_mono aF.out (fun _ hk => ⟨hk.1.1, ⟨hk.1.2.1, ⟨hk.1.2.2, hk.2⟩⟩⟩))), (zV (Kd.V_mono ak.out (fun _ hk => ⟨hk.1.1, ⟨hk.1.2.1, ⟨hk.1.2.2, hk.2⟩⟩⟩))), (zV (Kd.V_mono al.out (fun _ hk => ⟨hk.1.1, ⟨hk.1.2.1, ⟨hk.1.2.2, hk.2⟩⟩⟩))), (zV (Kd.V_mono am.out (fun _ hk => ⟨hk.1.1, ⟨hk.1.2.1, ⟨hk.1.2.2, hk.2⟩⟩⟩))), (zV (Kd.V_mono af.out (fun _ hk => ⟨hk.1.1, ⟨hk.1.2.1, ⟨hk.1.2.2, hk.2⟩⟩⟩))), (zV (Kd.V_mono ag.out (fun _ hk => ⟨hk.1.1, ⟨hk.1.2.1, ⟨hk.1.2.2, hk.2⟩⟩⟩))), (zV (Kd.V_mono ah.out (fun _ hk => ⟨hk.1.1, ⟨hk.1.2.1, ⟨hk.1.2.2, hk.2⟩⟩⟩))), (zB aq.out), (zB ae.out), (zB aS.out), bu.out, aW.out, aT.out, aV.out, aH.out, aU.out, (by repeat (first | (with_reducible first | exact HB.out | apply pA | apply pN | apply pD | refine pS ?_ aD.out | refine pS ?_ aE.out | refine pS ?_ aW.out) | exact HB.out))⟩)
            rintro ⟨v384, v387, v390, ad⟩ w39 ⟨hS_, h0_, h1_, h2_, h3_, h4_, h5_, h6_, h7_, h8_, h9_, h10_, h11_, h12_, h13_, h14_, h15_, h16_, h17_, h18_, h19_⟩
            have n0_ : Aside0 (Kd.V k76 76 w39 w.heap.size (fun k_ => ((au k_ ∨ av k_ ∨ aw k_) ∨ w.heap.size ≤ k_) ∧ k_ ≠ ac ∧ k_ ≠ ab ∧ k_ ≠ ad) v384 bs) := ⟨h0_⟩
            have n1_ : Aside0 (Kd.V k72 72 w39 w.heap.size (fun k_ => ((au k_ ∨ av k_ ∨ aw k_) ∨ w.heap.size ≤ k_) ∧ k_ ≠ ac ∧ k_ ≠ ab ∧ k_ ≠ ad) v387 bt) := ⟨h1_⟩
            have n2_ : Aside0 (Kd.V k64 64 w39 w.heap.size (fun k_ => ((au k_ ∨ av k_ ∨ aw k_) ∨ w.heap.size ≤ k_) ∧ k_ ≠ ac ∧ k_ ≠ ab ∧ k_ ≠ ad) v390 bv) := ⟨h2_⟩
            have n3_ : Aside0 (Kd.V k41 41 w39 w.heap.size (fun k_ => ((au k_ ∨ av k_ ∨ aw k_) ∨ w.heap.size ≤ k_) ∧ k_ ≠ ac ∧ k_ ≠ ab ∧ k_ ≠ ad) (.slice (some ap) aj.length c5) aj) := ⟨h3_⟩
            have n4_ : Aside0 (Kd.V k76 76 w39 w.heap.size (fun k_ => ((au k_ ∨ av k_ ∨ aw k_) ∨ w.heap.size ≤ k_) ∧ k_ ≠ ac ∧ k_ ≠ ab ∧ k_ ≠ ad) (.slice aI ay.length aJ) ay) := ⟨h4_⟩
            have n5_ : Aside0 (Kd.V k72 72 w39 w.heap.size (fun k_ => ((au k_ ∨ av k_ ∨ aw k_) ∨ w.heap.size ≤ k_) ∧ k_ ≠ ac ∧ k_ ≠ ab ∧ k_ ≠ ad) (.slice aK az.length aL) az) := ⟨h5_⟩
            have n6_ : Aside0 (Kd.V k64 64 w39 w.heap.size (fun k_ => ((au k_ ∨ av k_ ∨ aw k_) ∨ w.heap.size ≤ k_) ∧ k_ ≠ ac ∧ k_ ≠ ab ∧ k_ ≠ ad) (.slice aM aA.length aN) aA) := ⟨h6_⟩
            have n7_ : Aside0 (Kd.V k76 76 w39 w.heap.size (fun k_ => ((au k_ ∨ av k_ ∨ aw k_) ∨ w.heap.size ≤ k_) ∧ k_ ≠ ac ∧ k_ ≠ ab ∧ k_ ≠ ad) (.slice bc ao.length bd) ao) := ⟨h7_⟩
            have n8_ : Aside0 (Kd.V k72 72 w39 w.heap.size (fun k_ => ((au k_ ∨ av k_ ∨ aw k_) ∨ w.heap.size ≤ k_) ∧ k_ ≠ ac ∧ k_ ≠ ab ∧ k_ ≠ ad) (.slice ba an.length bb) an) := ⟨h8_⟩
            have n9_ : Aside0 (Kd.V k64 64 w39 w.heap.size (fun k_ => ((au k_ ∨ av k_ ∨ aw k_) ∨ w.heap.size ≤ k_) ∧ k_ ≠ ac ∧ k_ ≠ ab ∧ k_ ≠ ad) (.slice a8 ai.length a9) ai) := ⟨h9_⟩
            have n10_ : Aside0 (w39.heap[ac]? = some (.cells #[.int .i64 aG, .slice aI ay.length aJ, .slice aK az.length aL, .slice aM aA.length aN, .string aC, .int .i64 ax, .int .u8 aB] 44 (0, 0))) := ⟨h10_⟩
            have n11_ : Aside0 (w39.heap[ab]? = some (.cells #[.int .i64 ar, .slice bc ao.length bd, .slice ba an.length bb, .slice a8 ai.length a9] 26 (0, 0))) := ⟨h11_⟩
            have n12_ : Aside0 (w39.heap[ad]? = some (.cells #[.int .i64 0, .slice none 0 0, .slice none 0 0, .slice none 0 0] 26 (0, 0))) := ⟨h12_⟩
            have n13_ : Aside0 (w.heap.size ≤ ad) := ⟨h13_⟩
            have n14_ : Aside0 (w.heap.size ≤ ad) := ⟨h14_⟩
            have n15_ : Aside0 (ac ≠ ad) := ⟨h15_⟩
            have n16_ : Aside0 (ad ≠ ac) := ⟨h16_⟩
            have n17_ : Aside0 (ab ≠ ad) := ⟨h17_⟩
            have n18_ : Aside0 (ad ≠ ab) := ⟨h18_⟩
            have n19_ : Aside0 (Below w.heap.size w w39) := ⟨h19_⟩
            clear aF
            clear ak
            clear al
            clear am
            clear af
            clear ag
            clear ah
            clear aq
            clear ae
            clear HB
            clear h0_ h1_ h2_ h3_ h4_ h5_ h6_ h7_ h8_ h9_ h10_ h11_ h12_ h13_ h14_ h15_ h16_ h17_ h18_ h19_
            have bl := n0_
            have bm := n1_
            have bn := n2_
            have aF := n3_
            have ak := n4_
            have al := n5_
            have am := n6_
            have af := n7_
            have ag := n8_
            have ah := n9_
            have aq := n10_
            have ae := n11_
            have aS := n12_
            have bu := n13_
            have aW := n14_
            have aT := n15_
            have aV := n16_
            have aH := n17_
            have aU := n18_
            have HB := n19_
            clear n0_ n1_ n2_ n3_ n4_ n5_ n6_ n7_ n8_ n9_ n10_ n11_ n12_ n13_ n14_ n15_ n16_ n17_ n18_ n19_
            have hHeld : w39.cell? ⟨ab, 0, none⟩ = some (.int .i64 ar) ∧ w39.cell? ⟨ab, 1, none⟩ = some (.slice bc ao.length bd) ∧ w39.cell? ⟨ab, 2, none⟩ = some (.slice ba an.length bb) ∧ w39.cell? ⟨ab, 3, none⟩ = some (.slice a8 ai.length a9) ∧ w39.cell? (ap.add ((aa).toNat * 9)) = some (.int .i64 ((rd_T41 aj aa).f0)) ∧ w39.cell? ⟨(ap.add ((aa).toNat * 9)).block, (ap.add ((aa).toNat * 9)).off + 1, none⟩ = some (.int .i64 ((rd_T41 aj aa).f1)) ∧ w39.cell? ⟨(ap.add ((aa).toNat * 9)).block, (ap.add ((aa).toNat * 9)).off + 2, none⟩ = some (.int .i64 ((rd_T41 aj aa).f2)) ∧ w39.cell? ⟨(ap.add ((aa).toNat * 9)).block, (ap.add ((aa).toNat * 9)).off + 3, none⟩ = some (.int .u32 ((rd_T41 aj aa).f3)) ∧ w39.cell? ⟨(ap.add ((aa).toNat * 9)).block, (ap.add ((aa).toNat * 9)).off + 4, none⟩ = some (.string ((rd_T41 aj aa).f4)) ∧ w39.cell? ⟨(ap.add ((aa).toNat * 9)).block, (ap.add ((aa).toNat * 9)).off + 5, none⟩ = some (.int .u64 ((rd_T41 aj aa).f5)) ∧ w39.cell? ⟨(ap.add ((aa).toNat * 9)).block, (ap.add ((aa).toNat * 9)).off + 6, none⟩ = some (.int .u64 ((rd_T41 aj aa).f6)) ∧ w39.cell? ⟨(ap.add ((aa).toNat * 9)).block, (ap.add ((aa).toNat * 9)).off + 7, none⟩ = some (.int .i64 ((rd_T41 aj aa).f7)) ∧ w39.cell? ⟨(ap.add ((aa).toNat * 9)).block, (ap.add ((aa).toNat * 9)).off + 8, none⟩ = some (.int .i64 ((rd_T41 aj aa).f8)) := hS_
            obtain ⟨cJ, cK, c6⟩ := Kd.V_slice bl.out
            (first | subst c6 | (injection c6 with f1_ f2_ f3_; have f4_ := f1_.symm; have f5_ := f3_.symm; clear f1_ f2_ f3_; subst f4_; subst f5_))
            obtain ⟨c8, da, db⟩ := Kd.V_slice bm.out
            (first | subst db | (injection db with f1_ f2_ f3_; have f4_ := f1_.symm; have f5_ := f3_.symm; clear f1_ f2_ f3_; subst f4_; subst f5_))
            obtain ⟨dH, dI, dc⟩ := Kd.V_slice bn.out
            (first | subst dc | (injection dc with f1_ f2_ f3_; have f4_ := f1_.symm; have f5_ := f3_.symm; clear f1_ f2_ f3_; subst f4_; subst f5_))
            refine norm_ (a' := ?_) ?_ ?_
            rotate_left
            ·simp only [putAll, Act.put, sT, s0, s1]
             rfl
            refine one_ (i := 10) (N := none) #[true, true, true, true, true, true, true, true, true, true, true, false] rfl rfl (one_of HT_.out (by kernel_rfl)) (by decide) (fun K hK => ?_)
            have hs40 : w39.cell? ⟨ad, 0, none⟩ = some (.int .i64 0) := (blk_cell aS.out 0).trans rfl
            have hfs40 := blk_frozen aS.out 0
            have hns40_0 := aT.out
            have hns40_1 := aH.out
            have hms40_0 := aV.out
            have hms40_1 := aU.out
            have hs42 : w39.cell? ⟨ad, 1, none⟩ = some (.slice none 0 0) := (blk_cell aS.out 1).trans rfl
            have hfs42 := blk_frozen aS.out 1
            have hns42_0 := aT.out
            have hns42_1 := aH.out
            have hms42_0 := aV.out
            have hms42_1 := aU.out
            have hs44 : w39.cell? ⟨ad, 2, none⟩ = some (.slice none 0 0) := (blk_cell aS.out 2).trans rfl
            have hfs44 := blk_frozen aS.out 2
            have hns44_0 := aT.out
            have hns44_1 := aH.out
            have hms44_0 := aV.out
            have hms44_1 := aU.out
            have hs46 : w39.cell? ⟨ad, 3, none⟩ = some (.slice none 0 0) := (blk_cell aS.out 3).trans rfl
            have hfs46 := blk_frozen aS.out 3
            have hns46_0 := aT.out
            have hns46_1 := aH.out
            have hms46_0 := aV.out
            have hms46_1 := aU.out
            refine skip_ (w1 := ?_) (by rfl) rfl ?_ ?_
            rotate_left
            ·go_simp
             rfl
            refine hK.out _ _ ⟨(fC aH.out hHeld.1), (fC aH.out hHeld.2.1), (fC aH.out hHeld.2.2.1), (fC aH.out hHeld.2.2.2.1), (fC (g1 := ad) (by have z_ := Kd.own_blk (Kd.V_away aF.out (fun _ hk => hk.2.2.2)); first | exact z_ | (rw [add_block]; exact z_) | (show (Addr.add _ _).block ≠ _; rw [add_block]; exact z_)) hHeld.2.2.2.2.1), (fC (g1 := ad) (by have z_ := Kd.own_blk (Kd.V_away aF.out (fun _ hk => hk.2.2.2)); first | exact z_ | (rw [add_block]; exact z_) | (show (Addr.add _ _).block ≠ _; rw [add_block]; exact z_)) hHeld.2.2.2.2.2.1), (fC (g1 := ad) (by have z_ := Kd.own_blk (Kd.V_away aF.out (fun _ hk => hk.2.2.2)); first | exact z_ | (rw [add_block]; exact z_) | (show (Addr.add _ _).block ≠ _; rw [add_block]; exact z_)) hHeld.2.2.2.2.2.2.1), (fC (g1 := ad) (by have z_ := Kd.own_blk (Kd.V_away aF.out (fun _ hk => hk.2.2.2)); first | exact z_ | (rw [add_block]; exact z_) | (show (Addr.add _ _).block ≠ _; rw [add_block]; exact z_)) hHeld.2.2.2.2.2.2.2.1), (fC (g1 := ad) (by have z_ := Kd.own_blk (Kd.V_away aF.out (fun _ hk => hk.2.2.2)); first | exact z_ | (rw [add_block]; exact z_) | (show (Addr.add _ _).block ≠ _; rw [add_block]; exact z_)) hHeld.2.2.2.2.2.2.2.2.1), (fC (g1 := ad) (by have z_ := Kd.own_blk (Kd.V_away aF.out (fun _ hk => hk.2.2.2)); first | exact z_ | (rw [add_block]; exact z_) | (show (Addr.add _ _).block ≠ _; rw [add_block]; exact z_)) hHeld.2.2.2.2.2.2.2.2.2.1), (fC (g1 := ad) (by have z_ := Kd.own_blk (Kd.V_away aF.out (fun _ hk => hk.2.2.2)); first | exact z_ | (rw [add_block]; exact z_) | (show (Addr.add _ _).block ≠ _; rw [add_block]; exact z_)) hHeld.2.2.2.2.2.2.2.2.2.2.1), (fC (g1 := ad) (by have z_ := Kd.own_blk (Kd.V_away aF.out (fun _ hk => hk.2.2.2)); first | exact z_ | (rw [add_block]; exact z_) | (show (Addr.add _ _).block ≠ _; rw [add_block]; exact z_)) hHeld.2.2.2.2.2.2.2.2.2.2.2.1), (fC (g1 := ad) (by have z_ := Kd.own_blk (Kd.V_away aF.out (fun _ hk => hk.2.2.2)); first | exact z_ | (rw [add_block]; exact z_) | (show (Addr.add _ _).block ≠ _; rw [add_block]; exact z_)) hHeld.2.2.2.2.2.2.2.2.2.2.2.2)⟩ (fun hHeld => ?_)
            clear hK K
            refine pure_ (i := 11) (N := some 13) (v := ?_) (a' := ?_) #[true, true, true, true, true, true, true, true, true, true, true, true] rfl rfl (any_of HT_.out (by kernel_rfl)) (fun _ _ _ h => h) (Or.inl ⟨by rfl, ?_⟩) ?_ ?_
            rotate_left
            ·intro w'
             go_simp
             with_reducible rfl
            rotate_left
            ·simp only [Act.put, sT, s0, s1, i64_w, i32_w]
             rfl
            refine done_ (done_of HT_.out (by kernel_rfl)) ?_
            have e0 := aV.out
            have e1 := aT.out
            have e2 := aU.out
            have e3 := aH.out
            obtain ⟨dS, dT, dU, dV, dW, dX, dY, dZ⟩ := bk4 aS.out
            have e4 := bp.out
            have e5 := bo.out
            obtain ⟨d0, d1, d2, d3, d4, d5, d6, d7⟩ := bk4 ae.out
            try go_wp2
            go_roundg k3
            case measure => have := cL.out; have := cM.out; have := cO.out; omega
            case rel => exact ⟨(wrap64 (aa + 1)), (br), (bs), (bt), (bv), (.slice cJ bs.length cK), (.slice c8 bt.length da), (.slice dH bv.length dI), (by first | rfl | (simp; done) | (simp [*]; done)), H', ⟨by have := cL.out; have := cM.out; have := cO.out; omega⟩, ⟨(fV2 aF.out (fun k_ hk => (⟨hk, hk.2.2.2⟩ : _ ∧ k_ ≠ ad)) (fun k_ hk => (⟨hk, hk.1.2.2.1⟩ : _ ∧ k_ ≠ ab)) (fun _ hk => ⟨hk.1.1.1, ⟨hk.1.1.2.1, hk.1.1.2.2.1⟩⟩))⟩, ⟨(fV2 ak.out (fun k_ hk => (⟨hk, hk.2.2.2⟩ : _ ∧ k_ ≠ ad)) (fun k_ hk => (⟨hk, hk.1.2.2.1⟩ : _ ∧ k_ ≠ ab)) (fun _ hk => ⟨hk.1.1.1, ⟨hk.1.1.2.1, hk.1.1.2.2.1⟩⟩))⟩, ⟨(fV2 al.out (fun k_ hk => (⟨hk, hk.2.2.2⟩ : _ ∧ k_ ≠ ad)) (fun k_ hk => (⟨hk, hk.1.2.2.1⟩ : _ ∧ k_ ≠ ab)) (fun _ hk => ⟨hk.1.1.1, ⟨hk.1.1.2.1, hk.1.1.2.2.1⟩⟩))⟩, ⟨(fV2 am.out (fun k_ hk => (⟨hk, hk.2.2.2⟩ : _ ∧ k_ ≠ ad)) (fun k_ hk => (⟨hk, hk.1.2.2.1⟩ : _ ∧ k_ ≠ ab)) (fun _ hk => ⟨hk.1.1.1, ⟨hk.1.1.2.1, hk.1.1.2.2.1⟩⟩))⟩, ⟨(fV2 bl.out (fun k_ hk => (⟨hk, hk.2.2.2⟩ : _ ∧ k_ ≠ ad)) (fun k_ hk => (⟨hk, hk.1.2.2.1⟩ : _ ∧ k_ ≠ ab)) (fun _ hk => ⟨hk.1.1.1, ⟨hk.1.1.2.1, hk.1.1.2.2.1⟩⟩))⟩, ⟨(fV2 bm.out (fun k_ hk => (⟨hk, hk.2.2.2⟩ : _ ∧ k_ ≠ ad)) (fun k_ hk => (⟨hk, hk.1.2.2.1⟩ : _ ∧ k_ ≠ ab)) (fun _ hk => ⟨hk.1.1.1, ⟨hk.1.1.2.1, hk.1.1.2.2.1⟩⟩))⟩, ⟨(fV2 bn.out (fun k_ hk => (⟨hk, hk.2.2.2⟩ : _ ∧ k_ ≠ ad)) (fun k_ hk => (⟨hk, hk.1.2.2.1⟩ : _ ∧ k_ ≠ ab)) (fun _ hk => ⟨hk.1.1.1, ⟨hk.1.1.2.1, hk.1.1.2.2.1⟩⟩))⟩, ⟨fB2 bo.out aT.out aq.out⟩, ⟨by (with_reducible repeat (first | refine qN ?_ _ | refine qD ?_ | refine qA ?_ _)); refine blk_put (cs := #[.int .i64 br, .slice cJ bs.length cK, .slice c8 bt.length da, .slice a8 ai.length a9]) ?_ 3 _ rfl; (with_reducible repeat (first | refine qN ?_ _ | refine qD ?_ | refine qA ?_ _)); refine blk_put (cs := #[.int .i64 br, .slice cJ bs.length cK, .slice ba an.length bb, .slice a8 ai.length a9]) ?_ 2 _ rfl; (with_reducible repeat (first | refine qN ?_ _ | refine qD ?_ | refine qA ?_ _)); refine blk_put (cs := #[.int .i64 br, .slice bc ao.length bd, .slice ba an.length bb, .slice a8 ai.length a9]) ?_ 1 _ rfl; (with_reducible repeat (first | refine qN ?_ _ | refine qD ?_ | refine qA ?_ _)); refine blk_put (cs := #[.int .i64 ar, .slice bc ao.length bd, .slice ba an.length bb, .slice a8 ai.length a9]) ?_ 0 _ rfl; (with_reducible repeat (first | refine qN ?_ _ | refine qD ?_ | refine qA ?_ _)); refine blk_far ?_ aH.out _; (with_reducible repeat (first | refine qN ?_ _ | refine qD ?_ | refine qA ?_ _)); refine blk_far ?_ aH.out _; (with_reducible repeat (first | refine qN ?_ _ | refine qD ?_ | refine qA ?_ _)); refine blk_far ?_ aH.out _; (with_reducible repeat (first | refine qN ?_ _ | refine qD ?_ | refine qA ?_ _)); refine blk_far ?_ aH.out _; (with_reducible repeat (first | refine qN ?_ _ | refine qD ?_ | refine qA ?_ _)); exact ae.out⟩, ⟨by repeat (first | (with_reducible first | exact HB.out | apply pA | apply pN | apply pD | refine pS ?_ aD.out | refine pS ?_ aE.out | refine pS ?_ aW.out) | exact HB.out)⟩⟩
           ·rw [if_neg c31] at H
            have dn : (bq == 0) = false := beq_eq_false_iff_ne.mpr c31
            have dp : (bq != 0) = true := bne_iff_ne.mpr c31
            by_cases c52 : be = true
            ·subst c52
             have H1 : (some ((ai.length : Int) == 8)) = some r := by rw [if_pos rfl] at H; exact H
             clear H
             have H := H1
             clear H1
             clear hlaw_
             obtain rfl := Option.some.inj H
             obtain ⟨fg, dd, dJ⟩ := Kd.V_slice aF.out
             subst dJ
             obtain ⟨bf, bg, dK⟩ := Kd.V_slice af.out
             subst dK
             obtain ⟨bh, bi, dL⟩ := Kd.V_slice ag.out
             subst dL
             obtain ⟨bj, bk, dM⟩ := Kd.V_slice ah.out
             subst dM
             try go_wp2
             have n0_ := Aside0.mk (Kd.V_drew aF.out)
             have n1_ := Aside0.mk (Kd.V_drew ak.out)
             have n2_ := Aside0.mk (Kd.V_drew al.out)
             have n3_ := Aside0.mk (Kd.V_drew am.out)
             have n4_ := Aside0.mk (Kd.V_drew af.out)
             have n5_ := Aside0.mk (Kd.V_drew ag.out)
             have n6_ := Aside0.mk (Kd.V_drew ah.out)
             have n7_ := Aside0.mk (qD aq.out)
             have n8_ := Aside0.mk (qD ae.out)
             have n9_ := Aside0.mk (pD HB.out)
             clear aF
             clear ak
             clear al
             clear am
             clear af
             clear ag
             clear ah
             clear aq
             clear ae
             clear HB
             have aF := n0_
             have ak := n1_
             have al := n2_
             have am := n3_
             have af := n4_
             have ag := n5_
             have ah := n6_
             have aq := n7_
             have ae := n8_
             have HB := n9_
             clear n0_ n1_ n2_ n3_ n4_ n5_ n6_ n7_ n8_ n9_
             have p381 : 0 ≤ (aa : Int) := of_decide_eq_true (by first | (with_reducible assumption) | assumption)
             have q381 : aa < (aj.length : Int) := of_decide_eq_true (by first | (with_reducible assumption) | assumption)
             obtain ⟨ap, e381, hx381_0, hx381_1, hx381_2, hx381_3, hx381_4, hx381_5, hx381_6, hx381_7, hx381_8⟩ := at_T41 (Kd.V_reads' aF.out).2.2 aa p381 q381
             cases e381
             replace p381 := eq_true p381
             replace q381 := eq_true q381
             refine start_ (n := 12) (S := fun w' => w'.cell? ⟨ab, 0, none⟩ = some (.int .i64 ar) ∧ w'.cell? ⟨ab, 1, none⟩ = some (.slice bf ao.length bg) ∧ w'.cell? ⟨ab, 2, none⟩ = some (.slice bh an.length bi) ∧ w'.cell? ⟨ab, 3, none⟩ = some (.slice bj ai.length bk) ∧ w'.cell? (ap.add ((aa).toNat * 9)) = some (.int .i64 ((rd_T41 aj aa).f0)) ∧ w'.cell? ⟨(ap.add ((aa).toNat * 9)).block, (ap.add ((aa).toNat * 9)).off + 1, none⟩ = some (.int .i64 ((rd_T41 aj aa).f1)) ∧ w'.cell? ⟨(ap.add ((aa).toNat * 9)).block, (ap.add ((aa).toNat * 9)).off + 2, none⟩ = some (.int .i64 ((rd_T41 aj aa).f2)) ∧ w'.cell? ⟨(ap.add ((aa).toNat * 9)).block, (ap.add ((aa).toNat * 9)).off + 3, none⟩ = some (.int .u32 ((rd_T41 aj aa).f3)) ∧ w'.cell? ⟨(ap.add ((aa).toNat * 9)).block, (ap.add ((aa).toNat * 9)).off + 4, none⟩ = some (.string ((rd_T41 aj aa).f4)) ∧ w'.cell? ⟨(ap.add ((aa).toNat * 9)).block, (ap.add ((aa).toNat * 9)).off + 5, none⟩ = some (.int .u64 ((rd_T41 aj aa).f5)) ∧ w'.cell? ⟨(ap.add ((aa).toNat * 9)).block, (ap.add ((aa).toNat * 9)).off + 6, none⟩ = some (.int .u64 ((rd_T41 aj aa).f6)) ∧ w'.cell? ⟨(ap.add ((aa).toNat * 9)).block, (ap.add ((aa).toNat * 9)).off + 7, none⟩ = some (.int .i64 ((rd_T41 aj aa).f7)) ∧ w'.cell? ⟨(ap.add ((aa).toNat * 9)).block, (ap.add ((aa).toNat * 9)).off + 8, none⟩ = some (.int .i64 ((rd_T41 aj aa).f8))) (ds := []) #[false, false, false, false, false, false, false, false, false, false, false, false] (by kernel_rfl) rfl rfl ⟨(blk_cell ae.out 0).trans rfl, (blk_cell ae.out 1).trans rfl, (blk_cell ae.out 2).trans rfl, (blk_cell ae.out 3).trans rfl, hx381_0, hx381_1, hx381_2, hx381_3, hx381_4, hx381_5, hx381_6, hx381_7, hx381_8⟩ (fun hHeld => ?_); refine with_tabW portreevelaw16_GateLocks.tab15 portreevelaw16_GateLocks.bits15 (fun HT_ HW_ => ?_)
             generalize wr.drew = w57 at aF ak al am af ag ah aq ae HB hx381_0 hx381_1 hx381_2 hx381_3 hx381_4 hx381_5 hx381_6 hx381_7 hx381_8 hHeld ⊢
             refine pure_ (i := 1) (N := some 58) (v := ?_) (a' := ?_) #[false, true, false, false, false, false, false, false, false, false, false, false] rfl rfl (any_of HT_.out (by kernel_rfl)) (fun _ _ _ h => h) (Or.inl ⟨by rfl, ?_⟩) ?_ ?_
             rotate_left
             ·intro w'
              go_simp
              with_reducible rfl
             rotate_left
             ·simp only [Act.put, sT, s0, s1, i64_w, i32_w]
              rfl
             refine pure_ (i := 2) (N := some 59) (v := ?_) (a' := ?_) #[false, true, true, false, false, false, false, false, false, false, false, false] rfl rfl (any_of HT_.out (by kernel_rfl)) (fun _ _ _ h => h) (Or.inl ⟨by rfl, ?_⟩) ?_ ?_
             rotate_left
             ·intro w'
              go_simp
              with_reducible rfl
             rotate_left
             ·simp only [Act.put, sT, s0, s1, i64_w, i32_w]
              rfl
             refine pure_ (i := 3) (N := some 60) (v := ?_) (a' := ?_) #[false, true, true, true, false, false, false, false, false, false, false, false] rfl rfl (any_of HT_.out (by kernel_rfl)) (fun _ _ _ h => h) (Or.inl ⟨by rfl, ?_⟩) ?_ ?_
             rotate_left
             ·intro w'
              go_simp
              with_reducible rfl
             rotate_left
             ·simp only [Act.put, sT, s0, s1, i64_w, i32_w]
              rfl
             refine take_ (i := 0) (N := some 57) (v := ?_) (a' := ?_) #[true, true, true, true, false, false, false, false, false, false, false, false] rfl rfl (take_ofW HT_.out HW_.out (by kernel_rfl)) (fun _ _ _ h => h) (Or.inl ⟨by rfl, ?_⟩) hHeld ?_ ?_
             rotate_left
             ·rintro w' ⟨s0, s1, s2, s3, s4, s5, s6, s7, s8, s9, s10, s11, s12⟩
              go_simp
              with_reducible rfl
             rotate_left
             ·simp only [Act.put, sT, s0, s1, i64_w, i32_w]
              rfl
             refine take_ (i := 4) (N := some 61) (v := ?_) (a' := ?_) #[true, true, true, true, true, false, false, false, false, false, false, false] rfl rfl (take_ofW HT_.out HW_.out (by kernel_rfl)) (fun _ _ _ h => h) (Or.inl ⟨by rfl, ?_⟩) hHeld ?_ ?_
             rotate_left
             ·rintro w' ⟨s0, s1, s2, s3, s4, s5, s6, s7, s8, s9, s10, s11, s12⟩
              go_simp
              with_reducible rfl
             rotate_left
             ·simp only [Act.put, sT, s0, s1, i64_w, i32_w]
              rfl
             refine join_ (σ := Value × Value × Value × Nat) 2 #[true, true, true, true, true, true, true, true, true, true, false, false] (fun s_ => [(62, .tuple #[.agg #[.int .i64 br, s_.1, s_.2.1, s_.2.2.1], .int .i64 bq]), (12, .pointer (some ⟨s_.2.2.2, 0, none⟩)), (56, .tuple #[.agg #[.int .i64 br, s_.1, s_.2.1, s_.2.2.1], .int .i64 bq]), (63, .agg #[.int .i64 br, s_.1, s_.2.1, s_.2.2.1]), (64, .int .i64 bq)]) (fun s_ w' => (w'.cell? ⟨ab, 0, none⟩ = some (.int .i64 ar) ∧ w'.cell? ⟨ab, 1, none⟩ = some (.slice bf ao.length bg) ∧ w'.cell? ⟨ab, 2, none⟩ = some (.slice bh an.length bi) ∧ w'.cell? ⟨ab, 3, none⟩ = some (.slice bj ai.length bk) ∧ w'.cell? (ap.add ((aa).toNat * 9)) = some (.int .i64 ((rd_T41 aj aa).f0)) ∧ w'.cell? ⟨(ap.add ((aa).toNat * 9)).block, (ap.add ((aa).toNat * 9)).off + 1, none⟩ = some (.int .i64 ((rd_T41 aj aa).f1)) ∧ w'.cell? ⟨(ap.add ((aa).toNat * 9)).block, (ap.add ((aa).toNat * 9)).off + 2, none⟩ = some (.int .i64 ((rd_T41 aj aa).f2)) ∧ w'.cell? ⟨(ap.add ((aa).toNat * 9)).block, (ap.add ((aa).toNat * 9)).off + 3, none⟩ = some (.int .u32 ((rd_T41 aj aa).f3)) ∧ w'.cell? ⟨(ap.add ((aa).toNat * 9)).block, (ap.add ((aa).toNat * 9)).off + 4, none⟩ = some (.string ((rd_T41 aj aa).f4)) ∧ w'.cell? ⟨(ap.add ((aa).toNat * 9)).block, (ap.add ((aa).toNat * 9)).off + 5, none⟩ = some (.int .u64 ((rd_T41 aj aa).f5)) ∧ w'.cell? ⟨(ap.add ((aa).toNat * 9)).block, (ap.add ((aa).toNat * 9)).off + 6, none⟩ = some (.int .u64 ((rd_T41 aj aa).f6)) ∧ w'.cell? ⟨(ap.add ((aa).toNat * 9)).block, (ap.add ((aa).toNat * 9)).off + 7, none⟩ = some (.int .i64 ((rd_T41 aj aa).f7)) ∧ w'.cell? ⟨(ap.add ((aa).toNat * 9)).block, (ap.add ((aa).toNat * 9)).off + 8, none⟩ = some (.int .i64 ((rd_T41 aj aa).f8))) ∧ (Kd.V k76 76 w' w.heap.size (fun k_ => ((au k_ ∨ av k_ ∨ aw k_) ∨ w.heap.size ≤ k_) ∧ k_ ≠ ac ∧ k_ ≠ ab ∧ k_ ≠ s_.2.2.2) s_.1 bs) ∧ (Kd.V k72 72 w' w.heap.size (fun k_ => ((au k_ ∨ av k_ ∨ aw k_) ∨ w.heap.size ≤ k_) ∧ k_ ≠ ac ∧ k_ ≠ ab ∧ k_ ≠ s_.2.2.2) s_.2.1 bt) ∧ (Kd.V k64 64 w' w.heap.size (fun k_ => ((au k_ ∨ av k_ ∨ aw k_) ∨ w.heap.size ≤ k_) ∧ k_ ≠ ac ∧ k_ ≠ ab ∧ k_ ≠ s_.2.2.2) s_.2.2.1 bv) ∧ (Kd.V k41 41 w' w.heap.size (fun k_ => ((au k_ ∨ av k_ ∨ aw k_) ∨ w.heap.size ≤ k_) ∧ k_ ≠ ac ∧ k_ ≠ ab ∧ k_ ≠ s_.2.2.2) (.slice (some ap) aj.length dd) aj) ∧ (Kd.V k76 76 w' w.heap.size (fun k_ => ((au k_ ∨ av k_ ∨ aw k_) ∨ w.heap.size ≤ k_) ∧ k_ ≠ ac ∧ k_ ≠ ab ∧ k_ ≠ s_.2.2.2) (.slice aI ay.length aJ) ay) ∧ (Kd.V k72 72 w' w.heap.size (fun k_ => ((au k_ ∨ av k_ ∨ aw k_) ∨ w.heap.size ≤ k_) ∧ k_ ≠ ac ∧ k_ ≠ ab ∧ k_ ≠ s_.2.2.2) (.slice aK az.length aL) az) ∧ (Kd.V k64 64 w' w.heap.size (fun k_ => ((au k_ ∨ av k_ ∨ aw k_) ∨ w.heap.size ≤ k_) ∧ k_ ≠ ac ∧ k_ ≠ ab ∧ k_ ≠ s_.2.2.2) (.slice aM aA.length aN) aA) ∧ (Kd.V k76 76 w' w.heap.size (fun k_ => ((au k_ ∨ av k_ ∨ aw k_) ∨ w.heap.size ≤ k_) ∧ k_ ≠ ac ∧ k_ ≠ ab ∧ k_ ≠ s_.2.2.2) (.slice bf ao.length bg) ao) ∧ (Kd.V k72 72 w' w.heap.size (fun k_ => ((au k_ ∨ av k_ ∨ aw k_) ∨ w.heap.size ≤ k_) ∧ k_ ≠ ac ∧ k_ ≠ ab ∧ k_ ≠ s_.2.2.2) (.slice bh an.length bi) an) ∧ (Kd.V k64 64 w' w.heap.size (fun k_ => ((au k_ ∨ av k_ ∨ aw k_) ∨ w.heap.size ≤ k_) ∧ k_ ≠ ac ∧ k_ ≠ ab ∧ k_ ≠ s_.2.2.2) (.slice bj ai.length bk) ai) ∧ (w'.heap[ac]? = some (.cells #[.int .i64 aG, .slice aI ay.length aJ, .slice aK az.length aL, .slice aM aA.length aN, .string aC, .int .i64 ax, .int .u8 aB] 44 (0, 0))) ∧ (w'.heap[ab]? = some (.cells #[.int .i64 ar, .slice bf ao.length bg, .slice bh an.length bi, .slice bj ai.length bk] 26 (0, 0))) ∧ (w'.heap[s_.2.2.2]? = some (.cells #[.int .i64 0, .slice none 0 0, .slice none 0 0, .slice none 0 0] 26 (0, 0))) ∧ (w.heap.size ≤ s_.2.2.2) ∧ (w.heap.size ≤ s_.2.2.2) ∧ (ac ≠ s_.2.2.2) ∧ (s_.2.2.2 ≠ ac) ∧ (ab ≠ s_.2.2.2) ∧ (s_.2.2.2 ≠ ab) ∧ (Below w.heap.size w w')) ?_ ?_
             rotate_left
             ·intro hCont
              refine two_ (i := 5) (j := 9) (Ni := some 62) (Nj := some 12) #[true, true, true, true, true, true, false, false, false, false, false, false] #[true, true, true, true, true, false, false, false, false, true, false, false] rfl rfl rfl rfl (two_of HT_.out (by kernel_rfl)) (by decide) (by decide) (fun K hK => ?_) (fun K hK => ?_)
              ·skip
               refine goes_ Try.func14 (by kernel_rfl) rfl #[.agg #[.int .i64 ar, .slice bf ao.length bg, .slice bh an.length bi, .slice bj ai.length bk], .agg #[.int .i64 ((rd_T41 aj aa).f0), .int .i64 ((rd_T41 aj aa).f1), .int .i64 ((rd_T41 aj aa).f2), .int .u32 ((rd_T41 aj aa).f3), .string ((rd_T41 aj aa).f4), .int .u64 ((rd_T41 aj aa).f5), .int .u64 ((rd_T41 aj aa).f6), .int .i64 ((rd_T41 aj aa).f7), .int .i64 ((rd_T41 aj aa).f8)]] (by rfl) rfl rfl (by (try simp only [List.map_toArray, List.map_cons, List.map_nil]); first | done | rfl | (simp only [List.length_drop, List.length_take]; rfl)) ?_
               with_reducible refine (portreeveref04_Apply.calls k3 ar (fun k_ => (((au k_ ∨ av k_ ∨ aw k_) ∨ w.heap.size ≤ k_) ∧ (k_ ≠ ac ∧ k_ ≠ ab))) _ _ ao (fun k_ => (((au k_ ∨ av k_ ∨ aw k_) ∨ w.heap.size ≤ k_) ∧ (k_ ≠ ac ∧ k_ ≠ ab))) _ _ an (fun k_ => (((au k_ ∨ av k_ ∨ aw k_) ∨ w.heap.size ≤ k_) ∧ (k_ ≠ ac ∧ k_ ≠ ab))) _ _ ai ((rd_T41 aj aa).f0) ((rd_T41 aj aa).f1) ((rd_T41 aj aa).f2) ((rd_T41 aj aa).f3) ((rd_T41 aj aa).f4) ((rd_T41 aj aa).f5) ((rd_T41 aj aa).f6) ((rd_T41 aj aa).f7) ((rd_T41 aj aa).f8) br bs bt bv bq _ ?side1 ?side2 ?side3 cP.out).mono ?_
               (case side1 => exact af.out)
               (case side2 => exact ag.out)
               (case side3 => exact ah.out)
               rintro e w58 ⟨v384, v387, v390, rfl, ho0, ho1, ho2, hb⟩
               have HS4_ := (hb.cell (World.block_lt_of_cell? _ _ (hHeld.2.2.2.2.1))).trans (hHeld.2.2.2.2.1)
               have HS5_ := (hb.cell (World.block_lt_of_cell? _ _ (hHeld.2.2.2.2.2.1))).trans (hHeld.2.2.2.2.2.1)
               have HS6_ := (hb.cell (World.block_lt_of_cell? _ _ (hHeld.2.2.2.2.2.2.1))).trans (hHeld.2.2.2.2.2.2.1)
               have HS7_ := (hb.cell (World.block_lt_of_cell? _ _ (hHeld.2.2.2.2.2.2.2.1))).trans (hHeld.2.2.2.2.2.2.2.1)
               have HS8_ := (hb.cell (World.block_lt_of_cell? _ _ (hHeld.2.2.2.2.2.2.2.2.1))).trans (hHeld.2.2.2.2.2.2.2.2.1)
               have HS9_ := (hb.cell (World.block_lt_of_cell? _ _ (hHeld.2.2.2.2.2.2.2.2.2.1))).trans (hHeld.2.2.2.2.2.2.2.2.2.1)
               have HS10_ := (hb.cell (World.block_lt_of_cell? _ _ (hHeld.2.2.2.2.2.2.2.2.2.2.1))).trans (hHeld.2.2.2.2.2.2.2.2.2.2.1)
               have HS11_ := (hb.cell (World.block_lt_of_cell? _ _ (hHeld.2.2.2.2.2.2.2.2.2.2.2.1))).trans (hHeld.2.2.2.2.2.2.2.2.2.2.2.1)
               have HS12_ := (hb.cell (World.block_lt_of_cell? _ _ (hHeld.2.2.2.2.2.2.2.2.2.2.2.2))).trans (hHeld.2.2.2.2.2.2.2.2.2.2.2.2)
               refine ⟨_, rfl, ?_⟩
               have n0_ := Aside0.mk (Kd.V_below (zV aF.out) hb)
               have n1_ := Aside0.mk (Kd.V_below (zV ak.out) hb)
               have n2_ := Aside0.mk (Kd.V_below (zV al.out) hb)
               have n3_ := Aside0.mk (Kd.V_below (zV am.out) hb)
               have n4_ := Aside0.mk (Kd.V_below (zV af.out) hb)
               have n5_ := Aside0.mk (Kd.V_below (zV ag.out) hb)
               have n6_ := Aside0.mk (Kd.V_below (zV ah.out) hb)
               have n7_ := Aside0.mk (Kd.V_lower (Kd.V_mono (ok' := fun k_ => ((au k_ ∨ av k_ ∨ aw k_) ∨ w.heap.size ≤ k_) ∧ k_ ≠ ac ∧ k_ ≠ ab) ho0 (fun k_ hk_ => ⟨Or.elim hk_ (fun hs_ => Or.elim hs_ (fun hs_ => hs_.1) (fun hs_ => Or.elim hs_ (fun hs_ => hs_.1) (fun hs_ => hs_.1))) (fun hn_ => (.inr (Nat.le_trans (below_size (by repeat (first | (with_reducible first | exact HB.out | apply pA | apply pN | apply pD | refine pS ?_ aD.out | refine pS ?_ aE.out) | exact HB.out))) hn_))), Or.elim hk_ (fun hs_ => Or.elim hs_ (fun hs_ => hs_.2.1) (fun hs_ => Or.elim hs_ (fun hs_ => hs_.2.1) (fun hs_ => hs_.2.1))) (fun hn_ => (Kd.freshB (g := ac) (o := .cells #[.int .i64 aG, .slice aI ay.length aJ, .slice aK az.length aL, .slice aM aA.length aN, .string aC, .int .i64 ax, .int .u8 aB] 44 (0, 0)) (zB aq.out) k_ hn_)), Or.elim hk_ (fun hs_ => Or.elim hs_ (fun hs_ => hs_.2.2) (fun hs_ => Or.elim hs_ (fun hs_ => hs_.2.2) (fun hs_ => hs_.2.2))) (fun hn_ => (Kd.freshB (g := ab) (o := .cells #[.int .i64 ar, .slice bf ao.length bg, .slice bh an.length bi, .slice bj ai.length bk] 26 (0, 0)) (zB ae.out) k_ hn_))⟩)) (below_size (by repeat (first | (with_reducible first | exact HB.out | apply pA | apply pN | apply pD | refine pS ?_ aD.out | refine pS ?_ aE.out) | exact HB.out))))
               have n8_ := Aside0.mk (Kd.V_lower (Kd.V_mono (ok' := fun k_ => ((au k_ ∨ av k_ ∨ aw k_) ∨ w.heap.size ≤ k_) ∧ k_ ≠ ac ∧ k_ ≠ ab) ho1 (fun k_ hk_ => ⟨Or.elim hk_ (fun hs_ => Or.elim hs_ (fun hs_ => hs_.1) (fun hs_ => Or.elim hs_ (fun hs_ => hs_.1) (fun hs_ => hs_.1))) (fun hn_ => (.inr (Nat.le_trans (below_size (by repeat (first | (with_reducible first | exact HB.out | apply pA | apply pN | apply pD | refine pS ?_ aD.out | refine pS ?_ aE.out) | exact HB.out))) hn_))), Or.elim hk_ (fun hs_ => Or.elim hs_ (fun hs_ => hs_.2.1) (fun hs_ => Or.elim hs_ (fun hs_ => hs_.2.1) (fun hs_ => hs_.2.1))) (fun hn_ => (Kd.freshB (g := ac) (o := .cells #[.int .i64 aG, .slice aI ay.length aJ, .slice aK az.length aL, .slice aM aA.length aN, .string aC, .int .i64 ax, .int .u8 aB] 44 (0, 0)) (zB aq.out) k_ hn_)), Or.elim hk_ (fun hs_ => Or.elim hs_ (fun hs_ => hs_.2.2) (fun hs_ => Or.elim hs_ (fun hs_ => hs_.2.2) (fun hs_ => hs_.2.2))) (fun hn_ => (Kd.freshB (g := ab) (o := .cells #[.int .i64 ar, .slice bf ao.length bg, .slice bh an.length bi, .slice bj ai.length bk] 26 (0, 0)) (zB ae.out) k_ hn_))⟩)) (below_size (by repeat (first | (with_reducible first | exact HB.out | apply pA | apply pN | apply pD | refine pS ?_ aD.out | refine pS ?_ aE.out) | exact HB.out))))
               have n9_ := Aside0.mk (Kd.V_lower (Kd.V_mono (ok' := fun k_ => ((au k_ ∨ av k_ ∨ aw k_) ∨ w.heap.size ≤ k_) ∧ k_ ≠ ac ∧ k_ ≠ ab) ho2 (fun k_ hk_ => ⟨Or.elim hk_ (fun hs_ => Or.elim hs_ (fun hs_ => hs_.1) (fun hs_ => Or.elim hs_ (fun hs_ => hs_.1) (fun hs_ => hs_.1))) (fun hn_ => (.inr (Nat.le_trans (below_size (by repeat (first | (with_reducible first | exact HB.out | apply pA | apply pN | apply pD | refine pS ?_ aD.out | refine pS ?_ aE.out) | exact HB.out))) hn_))), Or.elim hk_ (fun hs_ => Or.elim hs_ (fun hs_ => hs_.2.1) (fun hs_ => Or.elim hs_ (fun hs_ => hs_.2.1) (fun hs_ => hs_.2.1))) (fun hn_ => (Kd.freshB (g := ac) (o := .cells #[.int .i64 aG, .slice aI ay.length aJ, .slice aK az.length aL, .slice aM aA.length aN, .string aC, .int .i64 ax, .int .u8 aB] 44 (0, 0)) (zB aq.out) k_ hn_)), Or.elim hk_ (fun hs_ => Or.elim hs_ (fun hs_ => hs_.2.2) (fun hs_ => Or.elim hs_ (fun hs_ => hs_.2.2) (fun hs_ => hs_.2.2))) (fun hn_ => (Kd.freshB (g := ab) (o := .cells #[.int .i64 ar, .slice bf ao.length bg, .slice bh an.length bi, .slice bj ai.length bk] 26 (0, 0)) (zB ae.out) k_ hn_))⟩)) (below_size (by repeat (first | (with_reducible first | exact HB.out | apply pA | apply pN | apply pD | refine pS ?_ aD.out | refine pS ?_ aE.out) | exact HB.out))))
               have n10_ := Aside0.mk (blk_below (g := ac) (o := .cells #[.int .i64 aG, .slice aI ay.length aJ, .slice aK az.length aL, .slice aM aA.length aN, .string aC, .int .i64 ax, .int .u8 aB] 44 (0, 0)) (zB aq.out) hb)
               have n11_ := Aside0.mk (blk_below (g := ab) (o := .cells #[.int .i64 ar, .slice bf ao.length bg, .slice bh an.length bi, .slice bj ai.length bk] 26 (0, 0)) (zB ae.out) hb)
               have n12_ := Aside0.mk (below_step (by repeat (first | (with_reducible first | exact HB.out | apply pA | apply pN | apply pD | refine pS ?_ aD.out | refine pS ?_ aE.out) | exact HB.out)) hb)
               clear aF
               clear ak
               clear al
               clear am
               clear af
               clear ag
               clear ah
               clear aq
               clear ae
               clear HB
               have aF := n0_
               have ak := n1_
               have al := n2_
               have am := n3_
               have af := n4_
               have ag := n5_
               have ah := n6_
               have bl := n7_
               have bm := n8_
               have bn := n9_
               have aq := n10_
               have ae := n11_
               have HB := n12_
               clear n0_ n1_ n2_ n3_ n4_ n5_ n6_ n7_ n8_ n9_ n10_ n11_ n12_
               (try clear hb)
               (try clear hb2)
               (try clear hk)
               (try clear hi)
               (try clear ho0)
               (try clear ho1)
               (try clear ho2)
               refine hK.out _ _ ⟨(blk_cell ae.out 0).trans rfl, (blk_cell ae.out 1).trans rfl, (blk_cell ae.out 2).trans rfl, (blk_cell ae.out 3).trans rfl, HS4_, HS5_, HS6_, HS7_, HS8_, HS9_, HS10_, HS11_, HS12_⟩ (fun hHeld => ?_)
               clear hK K
               refine norm_ (a' := ?_) ?_ ?_
               rotate_left
               ·show Act.put _ (some 62) _ = _
                simp only [Act.put, sT, s0, s1, i64_w, i32_w]
                rfl
               refine pure_ (i := 6) (N := some 56) (v := ?_) (a' := ?_) #[true, true, true, true, true, true, true, false, false, false, false, false] rfl rfl (any_of HT_.out (by kernel_rfl)) (fun _ _ _ h => h) (Or.inl ⟨by rfl, ?_⟩) ?_ ?_
               rotate_left
               ·intro w'
                go_simp
                with_reducible rfl
               rotate_left
               ·simp only [Act.put, sT, s0, s1, i64_w, i32_w]
                rfl
               refine pure_ (i := 7) (N := some 63) (v := ?_) (a' := ?_) #[true, true, true, true, true, true, true, true, false, false, false, false] rfl rfl (any_of HT_.out (by kernel_rfl)) (fun _ _ _ h => h) (Or.inl ⟨by rfl, ?_⟩) ?_ ?_
               rotate_left
               ·intro w'
                go_simp
                with_reducible rfl
               rotate_left
               ·simp only [Act.put, sT, s0, s1, i64_w, i32_w]
                rfl
               refine pure_ (i := 8) (N := some 64) (v := ?_) (a' := ?_) #[true, true, true, true, true, true, true, true, true, false, false, false] rfl rfl (any_of HT_.out (by kernel_rfl)) (fun _ _ _ h => h) (Or.inl ⟨by rfl, ?_⟩) ?_ ?_
               rotate_left
               ·intro w'
                go_simp
                with_reducible rfl
               rotate_left
               ·simp only [Act.put, sT, s0, s1, i64_w, i32_w]
                rfl
               refine one_ (i := 9) (N := some 12) #[true, true, true, true, true, true, true, true, true, true, false, false] rfl rfl (one_of HT_.out (by kernel_rfl)) (by decide) (fun K hK => ?_)
               refine box_step ?hg (N := 12) ?hd (cs := #[.int .i64 0, .slice none 0 0, .slice none 0 0, .slice none 0 0]) (t := 26) ?hr ?_; (case hd => rfl); (case hg => rfl); (case hr => first | (go_simp; done) | (go_simp; rfl))
               intro ad hg w59 hbox hb
               have HS4_ := (hb.cell (World.block_lt_of_cell? _ _ (hHeld.2.2.2.2.1))).trans (hHeld.2.2.2.2.1)
               have HS5_ := (hb.cell (World.block_lt_of_cell? _ _ (hHeld.2.2.2.2.2.1))).trans (hHeld.2.2.2.2.2.1)
               have HS6_ := (hb.cell (World.block_lt_of_cell? _ _ (hHeld.2.2.2.2.2.2.1))).trans (hHeld.2.2.2.2.2.2.1)
               have HS7_ := (hb.cell (World.block_lt_of_cell? _ _ (hHeld.2.2.2.2.2.2.2.1))).trans (hHeld.2.2.2.2.2.2.2.1)
               have HS8_ := (hb.cell (World.block_lt_of_cell? _ _ (hHeld.2.2.2.2.2.2.2.2.1))).trans (hHeld.2.2.2.2.2.2.2.2.1)
               have HS9_ := (hb.cell (World.block_lt_of_cell? _ _ (hHeld.2.2.2.2.2.2.2.2.2.1))).trans (hHeld.2.2.2.2.2.2.2.2.2.1)
               have HS10_ := (hb.cell (World.block_lt_of_cell? _ _ (hHeld.2.2.2.2.2.2.2.2.2.2.1))).trans (hHeld.2.2.2.2.2.2.2.2.2.2.1)
               have HS11_ := (hb.cell (World.block_lt_of_cell? _ _ (hHeld.2.2.2.2.2.2.2.2.2.2.2.1))).trans (hHeld.2.2.2.2.2.2.2.2.2.2.2.1)
               have HS12_ := (hb.cell (World.block_lt_of_cell? _ _ (hHeld.2.2.2.2.2.2.2.2.2.2.2.2))).trans (hHeld.2.2.2.2.2.2.2.2.2.2.2.2)
               have n0_ := Aside0.mk (Kd.V_below (Kd.V_elderB (zV aF.out) ad (Nat.le_of_eq hg.symm)) hb)
               have n1_ := Aside0.mk (Kd.V_below (Kd.V_elderB (zV ak.out) ad (Nat.le_of_eq hg.symm)) hb)
               have n2_ := Aside0.mk (Kd.V_below (Kd.V_elderB (zV al.out) ad (Nat.le_of_eq hg.symm)) hb)
               have n3_ := Aside0.mk (Kd.V_below (Kd.V_elderB (zV am.out) ad (Nat.le_of_eq hg.symm)) hb)
               have n4_ := Aside0.mk (Kd.V_below (Kd.V_elderB (zV af.out) ad (Nat.le_of_eq hg.symm)) hb)
               have n5_ := Aside0.mk (Kd.V_below (Kd.V_elderB (zV ag.out) ad (Nat.le_of_eq hg.symm)) hb)
               have n6_ := Aside0.mk (Kd.V_below (Kd.V_elderB (zV ah.out) ad (Nat.le_of_eq hg.symm)) hb)
               have n7_ := Aside0.mk (Kd.V_below (Kd.V_elderB (zV bl.out) ad (Nat.le_of_eq hg.symm)) hb)
               have n8_ := Aside0.mk (Kd.V_below (Kd.V_elderB (zV bm.out) ad (Nat.le_of_eq hg.symm)) hb)
               have n9_ := Aside0.mk (Kd.V_below (Kd.V_elderB (zV bn.out) ad (Nat.le_of_eq hg.symm)) hb)
               have n10_ := Aside0.mk (blk_below (g := ac) (o := .cells #[.int .i64 aG, .slice aI ay.length aJ, .slice aK az.length aL, .slice aM aA.length aN, .string aC, .int .i64 ax, .int .u8 aB] 44 (0, 0)) (zB aq.out) hb)
               have n11_ := Aside0.mk (blk_below (g := ab) (o := .cells #[.int .i64 ar, .slice bf ao.length bg, .slice bh an.length bi, .slice bj ai.length bk] 26 (0, 0)) (zB ae.out) hb)
               have n12_ := Aside0.mk (below_step (by repeat (first | (with_reducible first | exact HB.out | apply pA | apply pN | apply pD | refine pS ?_ aD.out | refine pS ?_ aE.out) | exact HB.out)) hb)
               have n13_ := Aside0.mk (hbox)
               have n14_ := Aside0.mk ((by rw [hg]; exact (below_size (by repeat (first | (with_reducible first | exact HB.out | apply pA | apply pN | apply pD | refine pS ?_ aD.out | refine pS ?_ aE.out) | exact HB.out))) : w.heap.size ≤ ad))
               have n15_ := Aside0.mk ((by rw [hg]; exact (below_size (by repeat (first | (with_reducible first | exact HB.out | apply pA | apply pN | apply pD | refine pS ?_ aD.out | refine pS ?_ aE.out) | exact HB.out))) : w.heap.size ≤ ad))
               have n16_ := Aside0.mk ((by rw [hg]; exact Nat.ne_of_lt (blk_lt (g := ac) (o := .cells #[.int .i64 aG, .slice aI ay.length aJ, .slice aK az.length aL, .slice aM aA.length aN, .string aC, .int .i64 ax, .int .u8 aB] 44 (0, 0)) (zB aq.out)) : ac ≠ ad))
               have n17_ := Aside0.mk ((by rw [hg]; exact Nat.ne_of_gt (blk_lt (g := ac) (o := .cells #[.int .i64 aG, .slice aI ay.length aJ, .slice aK az.length aL, .slice aM aA.length aN, .string aC, .int .i64 ax, .int .u8 aB] 44 (0, 0)) (zB aq.out)) : ad ≠ ac))
               have n18_ := Aside0.mk ((by rw [hg]; exact Nat.ne_of_lt (blk_lt (g := ab) (o := .cells #[.int .i64 ar, .slice bf ao.length bg, .slice bh an.length bi, .slice bj ai.length bk] 26 (0, 0)) (zB ae.out)) : ab ≠ ad))
               have n19_ := Aside0.mk ((by rw [hg]; exact Nat.ne_of_gt (blk_lt (g := ab) (o := .cells #[.int .i64 ar, .slice bf ao.length bg, .slice bh an.length bi, .slice bj ai.length bk] 26 (0, 0)) (zB ae.out)) : ad ≠ ab))
               clear aF
               clear ak
               clear al
               clear am
               clear af
               clear ag
               clear ah
               clear bl
               clear bm
               clear bn
               clear aq
               clear ae
               clear HB
               have aF := n0_
               have ak := n1_
               have al := n2_
               have am := n3_
               have af := n4_
               have ag := n5_
               have ah := n6_
               have bl := n7_
               have bm := n8_
               have bn := n9_
               have aq := n10_
               have ae := n11_
               have HB := n12_
               have aS := n13_
               have bu := n14_
               have aW := n15_
               have aT := n16_
               have aV := n17_
               have aH := n18_
               have aU := n19_
               clear n0_ n1_ n2_ n3_ n4_ n5_ n6_ n7_ n8_ n9_ n10_ n11_ n12_ n13_ n14_ n15_ n16_ n17_ n18_ n19_
               clear hb hbox hg
               refine hK.out _ _ ⟨(blk_cell ae.out 0).trans rfl, (blk_cell ae.out 1).trans rfl, (blk_cell ae.out 2).trans rfl, (blk_cell ae.out 3).trans rfl, HS4_, HS5_, HS6_, HS7_, HS8_, HS9_, HS10_, HS11_, HS12_⟩ (fun hHeld => ?_)
               clear hK K
               refine norm_ (a' := ?_) ?_ ?_
               rotate_left
               ·show Act.put _ (some 12) _ = _
                simp only [Act.put, sT, s0, s1, i64_w, i32_w]
                rfl
               exact norm_ (by simp only [putAll, Act.put, sT, s0, s1]) (hCont (v384, v387, v390, ad) _ ⟨hHeld, (zV (Kd.V_mono bl.out (fun _ hk => ⟨hk.1.1, ⟨hk.1.2.1, ⟨hk.1.2.2, hk.2⟩⟩⟩))), (zV (Kd.V_mono bm.out (fun _ hk => ⟨hk.1.1, ⟨hk.1.2.1, ⟨hk.1.2.2, hk.2⟩⟩⟩))), (zV (Kd.V_mono bn.out (fun _ hk => ⟨hk.1.1, ⟨hk.1.2.1, ⟨hk.1.2.2, hk.2⟩⟩⟩))), (zV (Kd.V_mono aF.out (fun _ hk => ⟨hk.1.1, ⟨hk.1.2.1, ⟨hk.1.2.2, hk.2⟩⟩⟩))), (zV (Kd.V_mono ak.out (fun _ hk => ⟨hk.1.1, ⟨hk.1.2.1, ⟨hk.1.2.2, hk.2⟩⟩⟩))), (zV (Kd.V_mono al.out (fun _ hk => ⟨hk.1.1, ⟨hk.1.2.1, ⟨hk.1.2.2, hk.2⟩⟩⟩))), (zV (Kd.V_mono am.out (fun _ hk => ⟨hk.1.1, ⟨hk.1.2.1, ⟨hk.1.2.2, hk.2⟩⟩⟩))), (zV (Kd.V_mono af.out (fun _ hk => ⟨hk.1.1, ⟨hk.1.2.1, ⟨hk.1.2.2, hk.2⟩⟩⟩))), (zV (Kd.V_mono ag.out (fun _ hk => ⟨hk.1.1, ⟨hk.1.2.1, ⟨hk.1.2.2, hk.2⟩⟩⟩))), (zV (Kd.V_mono ah.out (fun _ hk => ⟨hk.1.1, ⟨hk.1.2.1, ⟨hk.1.2.2, hk.2⟩⟩⟩))), (zB aq.out), (zB ae.out), (zB aS.out), bu.out, aW.out, aT.out, aV.out, aH.out, aU.out, (by repeat (first | (with_reducible first | exact HB.out | apply pA | apply pN | apply pD | refine pS ?_ aD.out | refine pS ?_ aE.out | refine pS ?_ aW.out) | exact HB.out))⟩)
              ·skip
               refine box_step ?hg (N := 12) ?hd (cs := #[.int .i64 0, .slice none 0 0, .slice none 0 0, .slice none 0 0]) (t := 26) ?hr ?_; (case hd => rfl); (case hg => rfl); (case hr => first | (go_simp; done) | (go_simp; rfl))
               intro ad hg w58 hbox hb
               have HS4_ := (hb.cell (World.block_lt_of_cell? _ _ (hHeld.2.2.2.2.1))).trans (hHeld.2.2.2.2.1)
               have HS5_ := (hb.cell (World.block_lt_of_cell? _ _ (hHeld.2.2.2.2.2.1))).trans (hHeld.2.2.2.2.2.1)
               have HS6_ := (hb.cell (World.block_lt_of_cell? _ _ (hHeld.2.2.2.2.2.2.1))).trans (hHeld.2.2.2.2.2.2.1)
               have HS7_ := (hb.cell (World.block_lt_of_cell? _ _ (hHeld.2.2.2.2.2.2.2.1))).trans (hHeld.2.2.2.2.2.2.2.1)
               have HS8_ := (hb.cell (World.block_lt_of_cell? _ _ (hHeld.2.2.2.2.2.2.2.2.1))).trans (hHeld.2.2.2.2.2.2.2.2.1)
               have HS9_ := (hb.cell (World.block_lt_of_cell? _ _ (hHeld.2.2.2.2.2.2.2.2.2.1))).trans (hHeld.2.2.2.2.2.2.2.2.2.1)
               have HS10_ := (hb.cell (World.block_lt_of_cell? _ _ (hHeld.2.2.2.2.2.2.2.2.2.2.1))).trans (hHeld.2.2.2.2.2.2.2.2.2.2.1)
               have HS11_ := (hb.cell (World.block_lt_of_cell? _ _ (hHeld.2.2.2.2.2.2.2.2.2.2.2.1))).trans (hHeld.2.2.2.2.2.2.2.2.2.2.2.1)
               have HS12_ := (hb.cell (World.block_lt_of_cell? _ _ (hHeld.2.2.2.2.2.2.2.2.2.2.2.2))).trans (hHeld.2.2.2.2.2.2.2.2.2.2.2.2)
               have n0_ := Aside0.mk (Kd.V_below (Kd.V_elderB (zV aF.out) ad (Nat.le_of_eq hg.symm)) hb)
               have n1_ := Aside0.mk (Kd.V_below (Kd.V_elderB (zV ak.out) ad (Nat.le_of_eq hg.symm)) hb)
               have n2_ := Aside0.mk (Kd.V_below (Kd.V_elderB (zV al.out) ad (Nat.le_of_eq hg.symm)) hb)
               have n3_ := Aside0.mk (Kd.V_below (Kd.V_elderB (zV am.out) ad (Nat.le_of_eq hg.symm)) hb)
               have n4_ := Aside0.mk (Kd.V_below (Kd.V_elderB (zV af.out) ad (Nat.le_of_eq hg.symm)) hb)
               have n5_ := Aside0.mk (Kd.V_below (Kd.V_elderB (zV ag.out) ad (Nat.le_of_eq hg.symm)) hb)
               have n6_ := Aside0.mk (Kd.V_below (Kd.V_elderB (zV ah.out) ad (Nat.le_of_eq hg.symm)) hb)
               have n7_ := Aside0.mk (blk_below (g := ac) (o := .cells #[.int .i64 aG, .slice aI ay.length aJ, .slice aK az.length aL, .slice aM aA.length aN, .string aC, .int .i64 ax, .int .u8 aB] 44 (0, 0)) (zB aq.out) hb)
               have n8_ := Aside0.mk (blk_below (g := ab) (o := .cells #[.int .i64 ar, .slice bf ao.length bg, .slice bh an.length bi, .slice bj ai.length bk] 26 (0, 0)) (zB ae.out) hb)
               have n9_ := Aside0.mk (below_step (by repeat (first | (with_reducible first | exact HB.out | apply pA | apply pN | apply pD | refine pS ?_ aD.out | refine pS ?_ aE.out) | exact HB.out)) hb)
               have n10_ := Aside0.mk (hbox)
               have n11_ := Aside0.mk ((by rw [hg]; exact (below_size (by repeat (first | (with_reducible first | exact HB.out | apply pA | apply pN | apply pD | refine pS ?_ aD.out | refine pS ?_ aE.out) | exact HB.out))) : w.heap.size ≤ ad))
               have n12_ := Aside0.mk ((by rw [hg]; exact (below_size (by repeat (first | (with_reducible first | exact HB.out | apply pA | apply pN | apply pD | refine pS ?_ aD.out | refine pS ?_ aE.out) | exact HB.out))) : w.heap.size ≤ ad))
               have n13_ := Aside0.mk ((by rw [hg]; exact Nat.ne_of_lt (blk_lt (g := ac) (o := .cells #[.int .i64 aG, .slice aI ay.length aJ, .slice aK az.length aL, .slice aM aA.length aN, .string aC, .int .i64 ax, .int .u8 aB] 44 (0, 0)) (zB aq.out)) : ac ≠ ad))
               have n14_ := Aside0.mk ((by rw [hg]; exact Nat.ne_of_gt (blk_lt (g := ac) (o := .cells #[.int .i64 aG, .slice aI ay.length aJ, .slice aK az.length aL, .slice aM aA.length aN, .string aC, .int .i64 ax, .int .u8 aB] 44 (0, 0)) (zB aq.out)) : ad ≠ ac))
               have n15_ := Aside0.mk ((by rw [hg]; exact Nat.ne_of_lt (blk_lt (g := ab) (o := .cells #[.int .i64 ar, .slice bf ao.length bg, .slice bh an.length bi, .slice bj ai.length bk] 26 (0, 0)) (zB ae.out)) : ab ≠ ad))
               have n16_ := Aside0.mk ((by rw [hg]; exact Nat.ne_of_gt (blk_lt (g := ab) (o := .cells #[.int .i64 ar, .slice bf ao.length bg, .slice bh an.length bi, .slice bj ai.length bk] 26 (0, 0)) (zB ae.out)) : ad ≠ ab))
               clear aF
               clear ak
               clear al
               clear am
               clear af
               clear ag
               clear ah
               clear aq
               clear ae
               clear HB
               have aF := n0_
               have ak := n1_
               have al := n2_
               have am := n3_
               have af := n4_
               have ag := n5_
               have ah := n6_
               have aq := n7_
               have ae := n8_
               have HB := n9_
               have aS := n10_
               have bu := n11_
               have aW := n12_
               have aT := n13_
               have aV := n14_
               have aH := n15_
               have aU := n16_
               clear n0_ n1_ n2_ n3_ n4_ n5_ n6_ n7_ n8_ n9_ n10_ n11_ n12_ n13_ n14_ n15_ n16_
               clear hb hbox hg
               refine hK.out _ _ ⟨(blk_cell ae.out 0).trans rfl, (blk_cell ae.out 1).trans rfl, (blk_cell ae.out 2).trans rfl, (blk_cell ae.out 3).trans rfl, HS4_, HS5_, HS6_, HS7_, HS8_, HS9_, HS10_, HS11_, HS12_⟩ (fun hHeld => ?_)
               clear hK K
               refine norm_ (a' := ?_) ?_ ?_
               rotate_left
               ·show Act.put _ (some 12) _ = _
                simp only [Act.put, sT, s0, s1, i64_w, i32_w]
                rfl
               refine one_ (i := 5) (N := some 62) #[true, true, true, true, true, true, false, false, false, true, false, false] rfl rfl (one_of HT_.out (by kernel_rfl)) (by decide) (fun K hK => ?_)
               refine goes_ Try.func14 (by kernel_rfl) rfl #[.agg #[.int .i64 ar, .slice bf ao.length bg, .slice bh an.length bi, .slice bj ai.length bk], .agg #[.int .i64 ((rd_T41 aj aa).f0), .int .i64 ((rd_T41 aj aa).f1), .int .i64 ((rd_T41 aj aa).f2), .int .u32 ((rd_T41 aj aa).f3), .string ((rd_T41 aj aa).f4), .int .u64 ((rd_T41 aj aa).f5), .int .u64 ((rd_T41 aj aa).f6), .int .i64 ((rd_T41 aj aa).f7), .int .i64 ((rd_T41 aj aa).f8)]] (by rfl) rfl rfl (by (try simp only [List.map_toArray, List.map_cons, List.map_nil]); first | done | rfl | (simp only [List.length_drop, List.length_take]; rfl)) ?_
               with_reducible refine (portreeveref04_Apply.calls k3 ar (fun k_ => ((((au k_ ∨ av k_ ∨ aw k_) ∨ w.heap.size ≤ k_) ∧ (k_ ≠ ac ∧ k_ ≠ ab)) ∧ k_ ≠ ad)) _ _ ao (fun k_ => ((((au k_ ∨ av k_ ∨ aw k_) ∨ w.heap.size ≤ k_) ∧ (k_ ≠ ac ∧ k_ ≠ ab)) ∧ k_ ≠ ad)) _ _ an (fun k_ => ((((au k_ ∨ av k_ ∨ aw k_) ∨ w.heap.size ≤ k_) ∧ (k_ ≠ ac ∧ k_ ≠ ab)) ∧ k_ ≠ ad)) _ _ ai ((rd_T41 aj aa).f0) ((rd_T41 aj aa).f1) ((rd_T41 aj aa).f2) ((rd_T41 aj aa).f3) ((rd_T41 aj aa).f4) ((rd_T41 aj aa).f5) ((rd_T41 aj aa).f6) ((rd_T41 aj aa).f7) ((rd_T41 aj aa).f8) br bs bt bv bq _ ?side1 ?side2 ?side3 cP.out).mono ?_
               (case side1 => exact af.out)
               (case side2 => exact ag.out)
               (case side3 => exact ah.out)
               rintro e w59 ⟨v384, v387, v390, rfl, ho0, ho1, ho2, hb⟩
               have HS4_ := (hb.cell (World.block_lt_of_cell? _ _ (hHeld.2.2.2.2.1))).trans (hHeld.2.2.2.2.1)
               have HS5_ := (hb.cell (World.block_lt_of_cell? _ _ (hHeld.2.2.2.2.2.1))).trans (hHeld.2.2.2.2.2.1)
               have HS6_ := (hb.cell (World.block_lt_of_cell? _ _ (hHeld.2.2.2.2.2.2.1))).trans (hHeld.2.2.2.2.2.2.1)
               have HS7_ := (hb.cell (World.block_lt_of_cell? _ _ (hHeld.2.2.2.2.2.2.2.1))).trans (hHeld.2.2.2.2.2.2.2.1)
               have HS8_ := (hb.cell (World.block_lt_of_cell? _ _ (hHeld.2.2.2.2.2.2.2.2.1))).trans (hHeld.2.2.2.2.2.2.2.2.1)
               have HS9_ := (hb.cell (World.block_lt_of_cell? _ _ (hHeld.2.2.2.2.2.2.2.2.2.1))).trans (hHeld.2.2.2.2.2.2.2.2.2.1)
               have HS10_ := (hb.cell (World.block_lt_of_cell? _ _ (hHeld.2.2.2.2.2.2.2.2.2.2.1))).trans (hHeld.2.2.2.2.2.2.2.2.2.2.1)
               have HS11_ := (hb.cell (World.block_lt_of_cell? _ _ (hHeld.2.2.2.2.2.2.2.2.2.2.2.1))).trans (hHeld.2.2.2.2.2.2.2.2.2.2.2.1)
               have HS12_ := (hb.cell (World.block_lt_of_cell? _ _ (hHeld.2.2.2.2.2.2.2.2.2.2.2.2))).trans (hHeld.2.2.2.2.2.2.2.2.2.2.2.2)
               refine ⟨_, rfl, ?_⟩
               have n0_ := Aside0.mk (Kd.V_below (zV aF.out) hb)
               have n1_ := Aside0.mk (Kd.V_below (zV ak.out) hb)
               have n2_ := Aside0.mk (Kd.V_below (zV al.out) hb)
               have n3_ := Aside0.mk (Kd.V_below (zV am.out) hb)
               have n4_ := Aside0.mk (Kd.V_below (zV af.out) hb)
               have n5_ := Aside0.mk (Kd.V_below (zV ag.out) hb)
               have n6_ := Aside0.mk (Kd.V_below (zV ah.out) hb)
               have n7_ := Aside0.mk (Kd.V_lower (Kd.V_mono (ok' := fun k_ => ((au k_ ∨ av k_ ∨ aw k_) ∨ w.heap.size ≤ k_) ∧ k_ ≠ ac ∧ k_ ≠ ab ∧ k_ ≠ ad) ho0 (fun k_ hk_ => ⟨Or.elim hk_ (fun hs_ => Or.elim hs_ (fun hs_ => hs_.1.1) (fun hs_ => Or.elim hs_ (fun hs_ => hs_.1.1) (fun hs_ => hs_.1.1))) (fun hn_ => (.inr (Nat.le_trans (below_size (by repeat (first | (with_reducible first | exact HB.out | apply pA | apply pN | apply pD | refine pS ?_ aD.out | refine pS ?_ aE.out | refine pS ?_ aW.out) | exact HB.out))) hn_))), Or.elim hk_ (fun hs_ => Or.elim hs_ (fun hs_ => hs_.1.2.1) (fun hs_ => Or.elim hs_ (fun hs_ => hs_.1.2.1) (fun hs_ => hs_.1.2.1))) (fun hn_ => (Kd.freshB (g := ac) (o := .cells #[.int .i64 aG, .slice aI ay.length aJ, .slice aK az.length aL, .slice aM aA.length aN, .string aC, .int .i64 ax, .int .u8 aB] 44 (0, 0)) (zB aq.out) k_ hn_)), Or.elim hk_ (fun hs_ => Or.elim hs_ (fun hs_ => hs_.1.2.2) (fun hs_ => Or.elim hs_ (fun hs_ => hs_.1.2.2) (fun hs_ => hs_.1.2.2))) (fun hn_ => (Kd.freshB (g := ab) (o := .cells #[.int .i64 ar, .slice bf ao.length bg, .slice bh an.length bi, .slice bj ai.length bk] 26 (0, 0)) (zB ae.out) k_ hn_)), Or.elim hk_ (fun hs_ => Or.elim hs_ (fun hs_ => hs_.2) (fun hs_ => Or.elim hs_ (fun hs_ => hs_.2) (fun hs_ => hs_.2))) (fun hn_ => (Kd.freshB (g := ad) (o := .cells #[.int .i64 0, .slice none 0 0, .slice none 0 0, .slice none 0 0] 26 (0, 0)) (zB aS.out) k_ hn_))⟩)) (below_size (by repeat (first | (with_reducible first | exact HB.out | apply pA | apply pN | apply pD | refine pS ?_ aD.out | refine pS ?_ aE.out | refine pS ?_ aW.out) | exact HB.out))))
               have n8_ := Aside0.mk (Kd.V_lower (Kd.V_mono (ok' := fun k_ => ((au k_ ∨ av k_ ∨ aw k_) ∨ w.heap.size ≤ k_) ∧ k_ ≠ ac ∧ k_ ≠ ab ∧ k_ ≠ ad) ho1 (fun k_ hk_ => ⟨Or.elim hk_ (fun hs_ => Or.elim hs_ (fun hs_ => hs_.1.1) (fun hs_ => Or.elim hs_ (fun hs_ => hs_.1.1) (fun hs_ => hs_.1.1))) (fun hn_ => (.inr (Nat.le_trans (below_size (by repeat (first | (with_reducible first | exact HB.out | apply pA | apply pN | apply pD | refine pS ?_ aD.out | refine pS ?_ aE.out | refine pS ?_ aW.out) | exact HB.out))) hn_))), Or.elim hk_ (fun hs_ => Or.elim hs_ (fun hs_ => hs_.1.2.1) (fun hs_ => Or.elim hs_ (fun hs_ => hs_.1.2.1) (fun hs_ => hs_.1.2.1))) (fun hn_ => (Kd.freshB (g := ac) (o := .cells #[.int .i64 aG, .slice aI ay.length aJ, .slice aK az.length aL, .slice aM aA.length aN, .string aC, .int .i64 ax, .int .u8 aB] 44 (0, 0)) (zB aq.out) k_ hn_)), Or.elim hk_ (fun hs_ => Or.elim hs_ (fun hs_ => hs_.1.2.2) (fun hs_ => Or.elim hs_ (fun hs_ => hs_.1.2.2) (fun hs_ => hs_.1.2.2))) (fun hn_ => (Kd.freshB (g := ab) (o := .cells #[.int .i64 ar, .slice bf ao.length bg, .slice bh an.length bi, .slice bj ai.length bk] 26 (0, 0)) (zB ae.out) k_ hn_)), Or.elim hk_ (fun hs_ => Or.elim hs_ (fun hs_ => hs_.2) (fun hs_ => Or.elim hs_ (fun hs_ => hs_.2) (fun hs_ => hs_.2))) (fun hn_ => (Kd.freshB (g := ad) (o := .cells #[.int .i64 0, .slice none 0 0, .slice none 0 0, .slice none 0 0] 26 (0, 0)) (zB aS.out) k_ hn_))⟩)) (below_size (by repeat (first | (with_reducible first | exact HB.out | apply pA | apply pN | apply pD | refine pS ?_ aD.out | refine pS ?_ aE.out | refine pS ?_ aW.out) | exact HB.out))))
               have n9_ := Aside0.mk (Kd.V_lower (Kd.V_mono (ok' := fun k_ => ((au k_ ∨ av k_ ∨ aw k_) ∨ w.heap.size ≤ k_) ∧ k_ ≠ ac ∧ k_ ≠ ab ∧ k_ ≠ ad) ho2 (fun k_ hk_ => ⟨Or.elim hk_ (fun hs_ => Or.elim hs_ (fun hs_ => hs_.1.1) (fun hs_ => Or.elim hs_ (fun hs_ => hs_.1.1) (fun hs_ => hs_.1.1))) (fun hn_ => (.inr (Nat.le_trans (below_size (by repeat (first | (with_reducible first | exact HB.out | apply pA | apply pN | apply pD | refine pS ?_ aD.out | refine pS ?_ aE.out | refine pS ?_ aW.out) | exact HB.out))) hn_))), Or.elim hk_ (fun hs_ => Or.elim hs_ (fun hs_ => hs_.1.2.1) (fun hs_ => Or.elim hs_ (fun hs_ => hs_.1.2.1) (fun hs_ => hs_.1.2.1))) (fun hn_ => (Kd.freshB (g := ac) (o := .cells #[.int .i64 aG, .slice aI ay.length aJ, .slice aK az.length aL, .slice aM aA.length aN, .string aC, .int .i64 ax, .int .u8 aB] 44 (0, 0)) (zB aq.out) k_ hn_)), Or.elim hk_ (fun hs_ => Or.elim hs_ (fun hs_ => hs_.1.2.2) (fun hs_ => Or.elim hs_ (fun hs_ => hs_.1.2.2) (fun hs_ => hs_.1.2.2))) (fun hn_ => (Kd.freshB (g := ab) (o := .cells #[.int .i64 ar, .slice bf ao.length bg, .slice bh an.length bi, .slice bj ai.length bk] 26 (0, 0)) (zB ae.out) k_ hn_)), Or.elim hk_ (fun hs_ => Or.elim hs_ (fun hs_ => hs_.2) (fun hs_ => Or.elim hs_ (fun hs_ => hs_.2) (fun hs_ => hs_.2))) (fun hn_ => (Kd.freshB (g := ad) (o := .cells #[.int .i64 0, .slice none 0 0, .slice none 0 0, .slice none 0 0] 26 (0, 0)) (zB aS.out) k_ hn_))⟩)) (below_size (by repeat (first | (with_reducible first | exact HB.out | apply pA | apply pN | apply pD | refine pS ?_ aD.out | refine pS ?_ aE.out | refine pS ?_ aW.out) | exact HB.out))))
               have n10_ := Aside0.mk (blk_below (g := ac) (o := .cells #[.int .i64 aG, .slice aI ay.length aJ, .slice aK az.length aL, .slice aM aA.length aN, .string aC, .int .i64 ax, .int .u8 aB] 44 (0, 0)) (zB aq.out) hb)
               have n11_ := Aside0.mk (blk_below (g := ab) (o := .cells #[.int .i64 ar, .slice bf ao.length bg, .slice bh an.length bi, .slice bj ai.length bk] 26 (0, 0)) (zB ae.out) hb)
               have n12_ := Aside0.mk (blk_below (g := ad) (o := .cells #[.int .i64 0, .slice none 0 0, .slice none 0 0, .slice none 0 0] 26 (0, 0)) (zB aS.out) hb)
               have n13_ := Aside0.mk (below_step (by repeat (first | (with_reducible first | exact HB.out | apply pA | apply pN | apply pD | refine pS ?_ aD.out | refine pS ?_ aE.out | refine pS ?_ aW.out) | exact HB.out)) hb)
               clear aF
               clear ak
               clear al
               clear am
               clear af
               clear ag
               clear ah
               clear aq
               clear ae
               clear aS
               clear HB
               have aF := n0_
               have ak := n1_
               have al := n2_
               have am := n3_
               have af := n4_
               have ag := n5_
               have ah := n6_
               have bl := n7_
               have bm := n8_
               have bn := n9_
               have aq := n10_
               have ae := n11_
               have aS := n12_
               have HB := n13_
               clear n0_ n1_ n2_ n3_ n4_ n5_ n6_ n7_ n8_ n9_ n10_ n11_ n12_ n13_
               (try clear hb)
               (try clear hb2)
               (try clear hk)
               (try clear hi)
               (try clear ho0)
               (try clear ho1)
               (try clear ho2)
               refine hK.out _ _ ⟨(blk_cell ae.out 0).trans rfl, (blk_cell ae.out 1).trans rfl, (blk_cell ae.out 2).trans rfl, (blk_cell ae.out 3).trans rfl, HS4_, HS5_, HS6_, HS7_, HS8_, HS9_, HS10_, HS11_, HS12_⟩ (fun hHeld => ?_)
               clear hK K
               refine norm_ (a' := ?_) ?_ ?_
               rotate_left
               ·show Act.put _ (some 62) _ = _
                simp only [Act.put, sT, s0, s1, i64_w, i32_w]
                rfl
               refine pure_ (i := 6) (N := some 56) (v := ?_) (a' := ?_) #[true, true, true, true, true, true, true, false, false, true, false, false] rfl rfl (any_of HT_.out (by kernel_rfl)) (fun _ _ _ h => h) (Or.inl ⟨by rfl, ?_⟩) ?_ ?_
               rotate_left
               ·intro w'
                go_simp
                with_reducible rfl
               rotate_left
               ·simp only [Act.put, sT, s0, s1, i64_w, i32_w]
                rfl
               refine pure_ (i := 7) (N := some 63) (v := ?_) (a' := ?_) #[true, true, true, true, true, true, true, true, false, true, false, false] rfl rfl (any_of HT_.out (by kernel_rfl)) (fun _ _ _ h => h) (Or.inl ⟨by rfl, ?_⟩) ?_ ?_
               rotate_left
               ·intro w'
                go_simp
                with_reducible rfl
               rotate_left
               ·simp only [Act.put, sT, s0, s1, i64_w, i32_w]
                rfl
               refine pure_ (i := 8) (N := some 64) (v := ?_) (a' := ?_) #[true, true, true, true, true, true, true, true, true, true, false, false] rfl rfl (any_of HT_.out (by kernel_rfl)) (fun _ _ _ h => h) (Or.inl ⟨by rfl, ?_⟩) ?_ ?_
               rotate_left
               ·intro w'
                go_simp
                with_reducible rfl
               rotate_left
               ·simp only [Act.put, sT, s0, s1, i64_w, i32_w]
                rfl
               exact norm_ (by simp only [putAll, Act.put, sT, s0, s1]) (hCont (v384, v387, v390, ad) _ ⟨hHeld, (zV bl.out), (zV bm.out), (zV bn.out), (zV (Kd.V_mono aF.out (fun _ hk => ⟨hk.1.1, ⟨hk.1.2.1, ⟨hk.1.2.2, hk.2⟩⟩⟩))), (zV (Kd.V_mono ak.out (fun _ hk => ⟨hk.1.1, ⟨hk.1.2.1, ⟨hk.1.2.2, hk.2⟩⟩⟩))), (zV (Kd.V_mono al.out (fun _ hk => ⟨hk.1.1, ⟨hk.1.2.1, ⟨hk.1.2.2, hk.2⟩⟩⟩))), (zV (Kd.V_mono am.out (fun _ hk => ⟨hk.1.1, ⟨hk.1.2.1, ⟨hk.1.2.2, hk.2⟩⟩⟩))), (zV (Kd.V_mono af.out (fun _ hk => ⟨hk.1.1, ⟨hk.1.2.1, ⟨hk.1.2.2, hk.2⟩⟩⟩))), (zV (Kd.V_mono ag.out (fun _ hk => ⟨hk.1.1, ⟨hk.1.2.1, ⟨hk.1.2.2, hk.2⟩⟩⟩))), (zV (Kd.V_mono ah.out (fun _ hk => ⟨hk.1.1, ⟨hk.1.2.1, ⟨hk.1.2.2, hk.2⟩⟩⟩))), (zB aq.out), (zB ae.out), (zB aS.out), bu.out, aW.out, aT.out, aV.out, aH.out, aU.out, (by repeat (first | (with_reducible first | exact HB.out | apply pA | apply pN | apply pD | refine pS ?_ aD.out | refine pS ?_ aE.out | refine pS ?_ aW.out) | exact HB.out))⟩)
             rintro ⟨v384, v387, v390, ad⟩ w60 ⟨hS_, h0_, h1_, h2_, h3_, h4_, h5_, h6_, h7_, h8_, h9_, h10_, h11_, h12_, h13_, h14_, h15_, h16_, h17_, h18_, h19_⟩
             have n0_ : Aside0 (Kd.V k76 76 w60 w.heap.size (fun k_ => ((au k_ ∨ av k_ ∨ aw k_) ∨ w.heap.size ≤ k_) ∧ k_ ≠ ac ∧ k_ ≠ ab ∧ k_ ≠ ad) v384 bs) := ⟨h0_⟩
             have n1_ : Aside0 (Kd.V k72 72 w60 w.heap.size (fun k_ => ((au k_ ∨ av k_ ∨ aw k_) ∨ w.heap.size ≤ k_) ∧ k_ ≠ ac ∧ k_ ≠ ab ∧ k_ ≠ ad) v387 bt) := ⟨h1_⟩
             have n2_ : Aside0 (Kd.V k64 64 w60 w.heap.size (fun k_ => ((au k_ ∨ av k_ ∨ aw k_) ∨ w.heap.size ≤ k_) ∧ k_ ≠ ac ∧ k_ ≠ ab ∧ k_ ≠ ad) v390 bv) := ⟨h2_⟩
             have n3_ : Aside0 (Kd.V k41 41 w60 w.heap.size (fun k_ => ((au k_ ∨ av k_ ∨ aw k_) ∨ w.heap.size ≤ k_) ∧ k_ ≠ ac ∧ k_ ≠ ab ∧ k_ ≠ ad) (.slice (some ap) aj.length dd) aj) := ⟨h3_⟩
             have n4_ : Aside0 (Kd.V k76 76 w60 w.heap.size (fun k_ => ((au k_ ∨ av k_ ∨ aw k_) ∨ w.heap.size ≤ k_) ∧ k_ ≠ ac ∧ k_ ≠ ab ∧ k_ ≠ ad) (.slice aI ay.length aJ) ay) := ⟨h4_⟩
             have n5_ : Aside0 (Kd.V k72 72 w60 w.heap.size (fun k_ => ((au k_ ∨ av k_ ∨ aw k_) ∨ w.heap.size ≤ k_) ∧ k_ ≠ ac ∧ k_ ≠ ab ∧ k_ ≠ ad) (.slice aK az.length aL) az) := ⟨h5_⟩
             have n6_ : Aside0 (Kd.V k64 64 w60 w.heap.size (fun k_ => ((au k_ ∨ av k_ ∨ aw k_) ∨ w.heap.size ≤ k_) ∧ k_ ≠ ac ∧ k_ ≠ ab ∧ k_ ≠ ad) (.slice aM aA.length aN) aA) := ⟨h6_⟩
             have n7_ : Aside0 (Kd.V k76 76 w60 w.heap.size (fun k_ => ((au k_ ∨ av k_ ∨ aw k_) ∨ w.heap.size ≤ k_) ∧ k_ ≠ ac ∧ k_ ≠ ab ∧ k_ ≠ ad) (.slice bf ao.length bg) ao) := ⟨h7_⟩
             have n8_ : Aside0 (Kd.V k72 72 w60 w.heap.size (fun k_ => ((au k_ ∨ av k_ ∨ aw k_) ∨ w.heap.size ≤ k_) ∧ k_ ≠ ac ∧ k_ ≠ ab ∧ k_ ≠ ad) (.slice bh an.length bi) an) := ⟨h8_⟩
             have n9_ : Aside0 (Kd.V k64 64 w60 w.heap.size (fun k_ => ((au k_ ∨ av k_ ∨ aw k_) ∨ w.heap.size ≤ k_) ∧ k_ ≠ ac ∧ k_ ≠ ab ∧ k_ ≠ ad) (.slice bj ai.length bk) ai) := ⟨h9_⟩
             have n10_ : Aside0 (w60.heap[ac]? = some (.cells #[.int .i64 aG, .slice aI ay.length aJ, .slice aK az.length aL, .slice aM aA.length aN, .string aC, .int .i64 ax, .int .u8 aB] 44 (0, 0))) := ⟨h10_⟩
             have n11_ : Aside0 (w60.heap[ab]? = some (.cells #[.int .i64 ar, .slice bf ao.length bg, .slice bh an.length bi, .slice bj ai.length bk] 26 (0, 0))) := ⟨h11_⟩
             have n12_ : Aside0 (w60.heap[ad]? = some (.cells #[.int .i64 0, .slice none 0 0, .slice none 0 0, .slice none 0 0] 26 (0, 0))) := ⟨h12_⟩
             have n13_ : Aside0 (w.heap.size ≤ ad) := ⟨h13_⟩
             have n14_ : Aside0 (w.heap.size ≤ ad) := ⟨h14_⟩
             have n15_ : Aside0 (ac ≠ ad) := ⟨h15_⟩
             have n16_ : Aside0 (ad ≠ ac) := ⟨h16_⟩
             have n17_ : Aside0 (ab ≠ ad) := ⟨h17_⟩
             have n18_ : Aside0 (ad ≠ ab) := ⟨h18_⟩
             have n19_ : Aside0 (Below w.heap.size w w60) := ⟨h19_⟩
             clear aF
             clear ak
             clear al
             clear am
             clear af
             clear ag
             clear ah
             clear aq
             clear ae
             clear HB
             clear h0_ h1_ h2_ h3_ h4_ h5_ h6_ h7_ h8_ h9_ h10_ h11_ h12_ h13_ h14_ h15_ h16_ h17_ h18_ h19_
             have bl := n0_
             have bm := n1_
             have bn := n2_
             have aF := n3_
             have ak := n4_
             have al := n5_
             have am := n6_
             have af := n7_
             have ag := n8_
             have ah := n9_
             have aq := n10_
             have ae := n11_
             have aS := n12_
             have bu := n13_
             have aW := n14_
             have aT := n15_
             have aV := n16_
             have aH := n17_
             have aU := n18_
             have HB := n19_
             clear n0_ n1_ n2_ n3_ n4_ n5_ n6_ n7_ n8_ n9_ n10_ n11_ n12_ n13_ n14_ n15_ n16_ n17_ n18_ n19_
             have hHeld : w60.cell? ⟨ab, 0, none⟩ = some (.int .i64 ar) ∧ w60.cell? ⟨ab, 1, none⟩ = some (.slice bf ao.length bg) ∧ w60.cell? ⟨ab, 2, none⟩ = some (.slice bh an.length bi) ∧ w60.cell? ⟨ab, 3, none⟩ = some (.slice bj ai.length bk) ∧ w60.cell? (ap.add ((aa).toNat * 9)) = some (.int .i64 ((rd_T41 aj aa).f0)) ∧ w60.cell? ⟨(ap.add ((aa).toNat * 9)).block, (ap.add ((aa).toNat * 9)).off + 1, none⟩ = some (.int .i64 ((rd_T41 aj aa).f1)) ∧ w60.cell? ⟨(ap.add ((aa).toNat * 9)).block, (ap.add ((aa).toNat * 9)).off + 2, none⟩ = some (.int .i64 ((rd_T41 aj aa).f2)) ∧ w60.cell? ⟨(ap.add ((aa).toNat * 9)).block, (ap.add ((aa).toNat * 9)).off + 3, none⟩ = some (.int .u32 ((rd_T41 aj aa).f3)) ∧ w60.cell? ⟨(ap.add ((aa).toNat * 9)).block, (ap.add ((aa).toNat * 9)).off + 4, none⟩ = some (.string ((rd_T41 aj aa).f4)) ∧ w60.cell? ⟨(ap.add ((aa).toNat * 9)).block, (ap.add ((aa).toNat * 9)).off + 5, none⟩ = some (.int .u64 ((rd_T41 aj aa).f5)) ∧ w60.cell? ⟨(ap.add ((aa).toNat * 9)).block, (ap.add ((aa).toNat * 9)).off + 6, none⟩ = some (.int .u64 ((rd_T41 aj aa).f6)) ∧ w60.cell? ⟨(ap.add ((aa).toNat * 9)).block, (ap.add ((aa).toNat * 9)).off + 7, none⟩ = some (.int .i64 ((rd_T41 aj aa).f7)) ∧ w60.cell? ⟨(ap.add ((aa).toNat * 9)).block, (ap.add ((aa).toNat * 9)).off + 8, none⟩ = some (.int .i64 ((rd_T41 aj aa).f8)) := hS_
             obtain ⟨fh, fi, de⟩ := Kd.V_slice bl.out
             (first | subst de | (injection de with f1_ f2_ f3_; have f4_ := f1_.symm; have f5_ := f3_.symm; clear f1_ f2_ f3_; subst f4_; subst f5_))
             obtain ⟨fj, fk, df⟩ := Kd.V_slice bm.out
             (first | subst df | (injection df with f1_ f2_ f3_; have f4_ := f1_.symm; have f5_ := f3_.symm; clear f1_ f2_ f3_; subst f4_; subst f5_))
             obtain ⟨fl, fm, dg⟩ := Kd.V_slice bn.out
             (first | subst dg | (injection dg with f1_ f2_ f3_; have f4_ := f1_.symm; have f5_ := f3_.symm; clear f1_ f2_ f3_; subst f4_; subst f5_))
             refine norm_ (a' := ?_) ?_ ?_
             rotate_left
             ·simp only [putAll, Act.put, sT, s0, s1]
              rfl
             refine one_ (i := 10) (N := none) #[true, true, true, true, true, true, true, true, true, true, true, false] rfl rfl (one_of HT_.out (by kernel_rfl)) (by decide) (fun K hK => ?_)
             have hs61 : w60.cell? ⟨ad, 0, none⟩ = some (.int .i64 0) := (blk_cell aS.out 0).trans rfl
             have hfs61 := blk_frozen aS.out 0
             have hns61_0 := aT.out
             have hns61_1 := aH.out
             have hms61_0 := aV.out
             have hms61_1 := aU.out
             have hs63 : w60.cell? ⟨ad, 1, none⟩ = some (.slice none 0 0) := (blk_cell aS.out 1).trans rfl
             have hfs63 := blk_frozen aS.out 1
             have hns63_0 := aT.out
             have hns63_1 := aH.out
             have hms63_0 := aV.out
             have hms63_1 := aU.out
             have hs65 : w60.cell? ⟨ad, 2, none⟩ = some (.slice none 0 0) := (blk_cell aS.out 2).trans rfl
             have hfs65 := blk_frozen aS.out 2
             have hns65_0 := aT.out
             have hns65_1 := aH.out
             have hms65_0 := aV.out
             have hms65_1 := aU.out
             have hs67 : w60.cell? ⟨ad, 3, none⟩ = some (.slice none 0 0) := (blk_cell aS.out 3).trans rfl
             have hfs67 := blk_frozen aS.out 3
             have hns67_0 := aT.out
             have hns67_1 := aH.out
             have hms67_0 := aV.out
             have hms67_1 := aU.out
             refine skip_ (w1 := ?_) (by rfl) rfl ?_ ?_
             rotate_left
             ·go_simp
              rfl
             refine hK.out _ _ ⟨(fC aH.out hHeld.1), (fC aH.out hHeld.2.1), (fC aH.out hHeld.2.2.1), (fC aH.out hHeld.2.2.2.1), (fC (g1 := ad) (by have z_ := Kd.own_blk (Kd.V_away aF.out (fun _ hk => hk.2.2.2)); first | exact z_ | (rw [add_block]; exact z_) | (show (Addr.add _ _).block ≠ _; rw [add_block]; exact z_)) hHeld.2.2.2.2.1), (fC (g1 := ad) (by have z_ := Kd.own_blk (Kd.V_away aF.out (fun _ hk => hk.2.2.2)); first | exact z_ | (rw [add_block]; exact z_) | (show (Addr.add _ _).block ≠ _; rw [add_block]; exact z_)) hHeld.2.2.2.2.2.1), (fC (g1 := ad) (by have z_ := Kd.own_blk (Kd.V_away aF.out (fun _ hk => hk.2.2.2)); first | exact z_ | (rw [add_block]; exact z_) | (show (Addr.add _ _).block ≠ _; rw [add_block]; exact z_)) hHeld.2.2.2.2.2.2.1), (fC (g1 := ad) (by have z_ := Kd.own_blk (Kd.V_away aF.out (fun _ hk => hk.2.2.2)); first | exact z_ | (rw [add_block]; exact z_) | (show (Addr.add _ _).block ≠ _; rw [add_block]; exact z_)) hHeld.2.2.2.2.2.2.2.1), (fC (g1 := ad) (by have z_ := Kd.own_blk (Kd.V_away aF.out (fun _ hk => hk.2.2.2)); first | exact z_ | (rw [add_block]; exact z_) | (show (Addr.add _ _).block ≠ _; rw [add_block]; exact z_)) hHeld.2.2.2.2.2.2.2.2.1), (fC (g1 := ad) (by have z_ := Kd.own_blk (Kd.V_away aF.out (fun _ hk => hk.2.2.2)); first | exact z_ | (rw [add_block]; exact z_) | (show (Addr.add _ _).block ≠ _; rw [add_block]; exact z_)) hHeld.2.2.2.2.2.2.2.2.2.1), (fC (g1 := ad) (by have z_ := Kd.own_blk (Kd.V_away aF.out (fun _ hk => hk.2.2.2)); first | exact z_ | (rw [add_block]; exact z_) | (show (Addr.add _ _).block ≠ _; rw [add_block]; exact z_)) hHeld.2.2.2.2.2.2.2.2.2.2.1), (fC (g1 := ad) (by have z_ := Kd.own_blk (Kd.V_away aF.out (fun _ hk => hk.2.2.2)); first | exact z_ | (rw [add_block]; exact z_) | (show (Addr.add _ _).block ≠ _; rw [add_block]; exact z_)) hHeld.2.2.2.2.2.2.2.2.2.2.2.1), (fC (g1 := ad) (by have z_ := Kd.own_blk (Kd.V_away aF.out (fun _ hk => hk.2.2.2)); first | exact z_ | (rw [add_block]; exact z_) | (show (Addr.add _ _).block ≠ _; rw [add_block]; exact z_)) hHeld.2.2.2.2.2.2.2.2.2.2.2.2)⟩ (fun hHeld => ?_)
             clear hK K
             refine pure_ (i := 11) (N := some 13) (v := ?_) (a' := ?_) #[true, true, true, true, true, true, true, true, true, true, true, true] rfl rfl (any_of HT_.out (by kernel_rfl)) (fun _ _ _ h => h) (Or.inl ⟨by rfl, ?_⟩) ?_ ?_
             rotate_left
             ·intro w'
              go_simp
              with_reducible rfl
             rotate_left
             ·simp only [Act.put, sT, s0, s1, i64_w, i32_w]
              rfl
             refine done_ (done_of HT_.out (by kernel_rfl)) ?_
             have e6 := bp.out
             have e7 := bo.out
             have e8 := aH.out
             have e9 := aU.out
             obtain ⟨d8, d9, ea, eb, ec, ed, ee, ef⟩ := bk4 ae.out
             try go_wp2
             go_ret
             exact ⟨by first | rfl | (simp [errW_none, errW_some] <;> rfl) | (simp [*, errW_none, errW_some] <;> rfl), by repeat (first | (with_reducible first | exact HB.out | apply pA | apply pN | apply pD | refine pS ?_ aD.out | refine pS ?_ aE.out | refine pS ?_ aW.out) | exact HB.out)⟩
            ·replace c52 := Bool.eq_false_iff.mpr c52
             subst c52
             have H1 : (some false) = some r := by rw [if_neg (show ¬ (false = true) by decide)] at H; exact H
             clear H
             have H := H1
             clear H1
             exact absurd ((Option.some.inj H).trans hlaw_.out) (by decide)
          ·rw [if_neg c29] at H
           exact absurd H (by simp)
         ·rw [if_neg c28] at H
          have dm : decide (aa < (aj.length : Int)) = false := decide_eq_false c28
          clear c28
          have H' := Aside0.mk H
          clear H
          obtain ⟨fn, fo, dN⟩ := Kd.V_slice aF.out
          subst dN
          go_wp2
          go_roundg k3
          case measure => have := cL.out; have := cM.out; have := cO.out; omega
          case rel => exact ⟨(wrap64 (bx + 1)), (ar), (ao), (an), (ai), (u375001), (u375002), (u375003), (by first | rfl | (simp; done) | (simp [*]; done)), H', ⟨by have := cL.out; have := cM.out; have := cO.out; omega⟩, ⟨zV ak.out⟩, ⟨zV al.out⟩, ⟨zV am.out⟩, ⟨zV af.out⟩, ⟨zV ag.out⟩, ⟨zV ah.out⟩, ⟨zB aq.out⟩, ⟨zB ae.out⟩, ⟨by repeat (first | (with_reducible first | exact HB.out | apply pA | apply pN | apply pD | refine pS ?_ aD.out | refine pS ?_ aE.out) | exact HB.out)⟩⟩
      ·rw [if_neg c20] at H
       have cN : decide (bx < 3) = false := decide_eq_false c20
       clear c20
       replace H := Option.bind_eq_some_iff.mp H
       obtain ⟨⟨bB, bz⟩, dh, H⟩ := H
       replace H : ((gate_Until.f aR aO aP aQ aC).bind fun a7 => ((gate_Verdict.f k2 aR aO aP aQ aC true true (wrap64 (ax + (wrap64 (aB))))).bind fun cH => (if be = true then (if bB ≥ 3 then (if a7 = (wrap64 (bz + 20)) then (if (cH.1 == (decide ((wrap64 (ax + (wrap64 (aB)))) ≥ a7))) = true then ((gate_Locked.f aR aO aP aQ aC (wrap64 (ax + (wrap64 (aB))))).bind fun bA => (some (bA == (decide ((wrap64 (ax + (wrap64 (aB)))) < a7))))) else (some false)) else (some false)) else (some false)) else (some false)))) = some r := H
       have eN := Aside0.mk dh
       clear dh
       replace H := Option.bind_eq_some_iff.mp H
       obtain ⟨a7, di, H⟩ := H
       replace H : ((gate_Verdict.f k2 aR aO aP aQ aC true true (wrap64 (ax + (wrap64 (aB))))).bind fun cH => (if be = true then (if bB ≥ 3 then (if a7 = (wrap64 (bz + 20)) then (if (cH.1 == (decide ((wrap64 (ax + (wrap64 (aB)))) ≥ a7))) = true then ((gate_Locked.f aR aO aP aQ aC (wrap64 (ax + (wrap64 (aB))))).bind fun bA => (some (bA == (decide ((wrap64 (ax + (wrap64 (aB)))) < a7))))) else (some false)) else (some false)) else (some false)) else (some false))) = some r := H
       have eO := Aside0.mk di
       clear di
       replace H := Option.bind_eq_some_iff.mp H
       obtain ⟨⟨bw, dO⟩, dj, H⟩ := H
       replace H : (if be = true then (if bB ≥ 3 then (if a7 = (wrap64 (bz + 20)) then (if (bw == (decide ((wrap64 (ax + (wrap64 (aB)))) ≥ a7))) = true then ((gate_Locked.f aR aO aP aQ aC (wrap64 (ax + (wrap64 (aB))))).bind fun bA => (some (bA == (decide ((wrap64 (ax + (wrap64 (aB)))) < a7))))) else (some false)) else (some false)) else (some false)) else (some false)) = some r := H
       have eP := Aside0.mk dj
       clear dj
       by_cases c75 : be = true
       ·subst c75
        have H1 : (if bB ≥ 3 then (if a7 = (wrap64 (bz + 20)) then (if (bw == (decide ((wrap64 (ax + (wrap64 (aB)))) ≥ a7))) = true then ((gate_Locked.f aR aO aP aQ aC (wrap64 (ax + (wrap64 (aB))))).bind fun bA => (some (bA == (decide ((wrap64 (ax + (wrap64 (aB)))) < a7))))) else (some false)) else (some false)) else (some false)) = some r := by rw [if_pos rfl] at H; exact H
        clear H
        have H := H1
        clear H1
        by_cases c76 : bB ≥ 3
        ·rw [if_pos c76] at H
         have dq : decide (3 ≤ bB) = true := decide_eq_true c76
         clear c76
         by_cases c77 : a7 = (wrap64 (bz + 20))
         ·rw [if_pos c77] at H
          have dr : (a7 == (wrap64 (bz + 20))) = true := beq_iff_eq.mpr c77
          have dt : (a7 != (wrap64 (bz + 20))) = false := bne_eq_false_iff_eq.mpr c77
          clear c77
          by_cases c78 : (bw == (decide ((wrap64 (ax + (wrap64 (aB)))) ≥ a7))) = true
          ·rw [if_pos c78] at H
           have du : (bw == (decide ((wrap64 (ax + (wrap64 (aB)))) ≥ a7))) = true := c78
           (try (have dv : decide (bw = (decide ((wrap64 (ax + (wrap64 (aB)))) ≥ a7))) = true := by simpa using c78))
           (try (have dw : (bw == (decide ((wrap64 (ax + (wrap64 (aB)))) ≥ a7))) = true := by simpa using c78))
           clear c78
           replace H := Option.bind_eq_some_iff.mp H
           obtain ⟨bA, dk, H⟩ := H
           replace H : (some (bA == (decide ((wrap64 (ax + (wrap64 (aB)))) < a7)))) = some r := H
           have eQ := Aside0.mk dk
           clear dk
           clear hlaw_
           obtain rfl := Option.some.inj H
           have fa := bp.out
           have fb := bo.out
           obtain ⟨eg, eh, ei, ej, ek, el, em, en⟩ := bk4 ae.out
           obtain ⟨bC, bD, dP⟩ := Kd.V_slice af.out
           subst dP
           obtain ⟨bE, bF, dQ⟩ := Kd.V_slice ag.out
           subst dQ
           obtain ⟨bG, bH, dR⟩ := Kd.V_slice ah.out
           subst dR
           go_wp2_with (first | ((with_reducible refine gate_callee (f := 12) rfl ?_); refine goesL_ (some 78) rfl rfl Try.func12 (by kernel_rfl) rfl #[.agg #[.int .i64 aR, .slice bC aO.length bD, .slice bE aP.length bF, .slice bG aQ.length bH], .string aC] rfl (by (try simp only [List.map_toArray, List.map_cons, List.map_nil]); first | done | rfl | (simp only [List.length_drop, List.length_take]; rfl)) ?_; (with_reducible refine (gate_Failed.calls aR _ _ aO _ _ aP _ _ aQ aC bB bz _ ?side1 ?side2 ?side3 ?side4 ?side5 ?side6 eN.out).mono ?_); (case side1 => repeat (first | exact (Kd.V_reads' af.out).2.2 | (with_reducible refine Kd.C_alloc ?_ _) | (with_reducible refine Kd.C_drewN ?_ _) | (with_reducible refine Kd.C_drew ?_))); (case side2 => exact (Kd.V_reads' af.out).2.1); (case side3 => repeat (first | exact (Kd.V_reads' ag.out).2.2 | (with_reducible refine Kd.C_alloc ?_ _) | (with_reducible refine Kd.C_drewN ?_ _) | (with_reducible refine Kd.C_drew ?_))); (case side4 => exact (Kd.V_reads' ag.out).2.1); (case side5 => repeat (first | exact (Kd.V_reads' ah.out).2.2 | (with_reducible refine Kd.C_alloc ?_ _) | (with_reducible refine Kd.C_drewN ?_ _) | (with_reducible refine Kd.C_drew ?_))); (case side6 => exact (Kd.V_reads' ah.out).2.1); rintro e w85 ⟨rfl, hb⟩; refine ⟨_, rfl, ?_⟩; have n0_ := Aside0.mk (Kd.V_below (zV ak.out) hb); have n1_ := Aside0.mk (Kd.V_below (zV al.out) hb); have n2_ := Aside0.mk (Kd.V_below (zV am.out) hb); have n3_ := Aside0.mk (Kd.V_below (zV af.out) hb); have n4_ := Aside0.mk (Kd.V_below (zV ag.out) hb); have n5_ := Aside0.mk (Kd.V_below (zV ah.out) hb); have n6_ := Aside0.mk (blk_below (g := ac) (o := .cells #[.int .i64 aG, .slice aI ay.length aJ, .slice aK az.length aL, .slice aM aA.length aN, .string aC, .int .i64 ax, .int .u8 aB] 44 (0, 0)) (zB aq.out) hb); have n7_ := Aside0.mk (blk_below (g := ab) (o := .cells #[.int .i64 aR, .slice bC aO.length bD, .slice bE aP.length bF, .slice bG aQ.length bH] 26 (0, 0)) (zB ae.out) hb); have n8_ := Aside0.mk (below_step (by repeat (first | (with_reducible first | exact HB.out | apply pA | apply pN | apply pD | refine pS ?_ aD.out | refine pS ?_ aE.out) | exact HB.out)) hb); clear ak; clear al; clear am; clear af; clear ag; clear ah; clear aq; clear ae; clear HB; have ak := n0_; have al := n1_; have am := n2_; have af := n3_; have ag := n4_; have ah := n5_; have aq := n6_; have ae := n7_; have HB := n8_; clear n0_ n1_ n2_ n3_ n4_ n5_ n6_ n7_ n8_; (try clear hb); (try clear hb2); (try clear hk); (try clear hi); obtain ⟨eo, ep, eq, er, es, et, eu, ev⟩ := bk4 ae.out) | ((with_reducible refine gate_callee (f := 15) rfl ?_); refine goesL_ (some 83) rfl rfl Try.func15 (by kernel_rfl) rfl #[.agg #[.int .i64 aR, .slice bC aO.length bD, .slice bE aP.length bF, .slice bG aQ.length bH], .string aC] rfl (by (try simp only [List.map_toArray, List.map_cons, List.map_nil]); first | done | rfl | (simp only [List.length_drop, List.length_take]; rfl)) ?_; (with_reducible refine (gate_Until.calls aR _ _ aO _ _ aP _ _ aQ aC a7 _ ?side1 ?side2 ?side3 ?side4 ?side5 ?side6 eO.out).mono ?_); (case side1 => repeat (first | exact (Kd.V_reads' af.out).2.2 | (with_reducible refine Kd.C_alloc ?_ _) | (with_reducible refine Kd.C_drewN ?_ _) | (with_reducible refine Kd.C_drew ?_))); (case side2 => exact (Kd.V_reads' af.out).2.1); (case side3 => repeat (first | exact (Kd.V_reads' ag.out).2.2 | (with_reducible refine Kd.C_alloc ?_ _) | (with_reducible refine Kd.C_drewN ?_ _) | (with_reducible refine Kd.C_drew ?_))); (case side4 => exact (Kd.V_reads' ag.out).2.1); (case side5 => repeat (first | exact (Kd.V_reads' ah.out).2.2 | (with_reducible refine Kd.C_alloc ?_ _) | (with_reducible refine Kd.C_drewN ?_ _) | (with_reducible refine Kd.C_drew ?_))); (case side6 => exact (Kd.V_reads' ah.out).2.1); rintro e w87 ⟨rfl, hb⟩; refine ⟨_, rfl, ?_⟩; have n0_ := Aside0.mk (Kd.V_below (zV ak.out) hb); have n1_ := Aside0.mk (Kd.V_below (zV al.out) hb); have n2_ := Aside0.mk (Kd.V_below (zV am.out) hb); have n3_ := Aside0.mk (Kd.V_below (zV af.out) hb); have n4_ := Aside0.mk (Kd.V_below (zV ag.out) hb); have n5_ := Aside0.mk (Kd.V_below (zV ah.out) hb); have n6_ := Aside0.mk (blk_below (g := ac) (o := .cells #[.int .i64 aG, .slice aI ay.length aJ, .slice aK az.length aL, .slice aM aA.length aN, .string aC, .int .i64 ax, .int .u8 aB] 44 (0, 0)) (zB aq.out) hb); have n7_ := Aside0.mk (blk_below (g := ab) (o := .cells #[.int .i64 aR, .slice bC aO.length bD, .slice bE aP.length bF, .slice bG aQ.length bH] 26 (0, 0)) (zB ae.out) hb); have n8_ := Aside0.mk (below_step (by repeat (first | (with_reducible first | exact HB.out | apply pA | apply pN | apply pD | refine pS ?_ aD.out | refine pS ?_ aE.out) | exact HB.out)) hb); clear ak; clear al; clear am; clear af; clear ag; clear ah; clear aq; clear ae; clear HB; have ak := n0_; have al := n1_; have am := n2_; have af := n3_; have ag := n4_; have ah := n5_; have aq := n6_; have ae := n7_; have HB := n8_; clear n0_ n1_ n2_ n3_ n4_ n5_ n6_ n7_ n8_; (try clear hb); (try clear hb2); (try clear hk); (try clear hi); obtain ⟨ew, ex, ey, ez, eA, eB, eC, eD⟩ := bk4 ae.out) | ((with_reducible refine gate_callee (f := 11) rfl ?_); refine goesL_ (some 92) rfl rfl Try.func11 (by kernel_rfl) rfl #[.agg #[.int .i64 aR, .slice bC aO.length bD, .slice bE aP.length bF, .slice bG aQ.length bH], .string aC, .bool true, .bool true, .int .i64 (wrap64 (ax + (wrap64 (aB))))] rfl (by (try simp only [List.map_toArray, List.map_cons, List.map_nil]); first | done | rfl | (simp only [List.length_drop, List.length_take]; rfl)) ?_; (with_reducible refine (gate_Verdict.calls k2 aR _ _ aO _ _ aP _ _ aQ aC true true (wrap64 (ax + (wrap64 (aB)))) bw dO _ ?side1 ?side2 ?side3 ?side4 ?side5 ?side6 eP.out).mono ?_); (case side1 => repeat (first | exact (Kd.V_reads' af.out).2.2 | (with_reducible refine Kd.C_alloc ?_ _) | (with_reducible refine Kd.C_drewN ?_ _) | (with_reducible refine Kd.C_drew ?_))); (case side2 => exact (Kd.V_reads' af.out).2.1); (case side3 => repeat (first | exact (Kd.V_reads' ag.out).2.2 | (with_reducible refine Kd.C_alloc ?_ _) | (with_reducible refine Kd.C_drewN ?_ _) | (with_reducible refine Kd.C_drew ?_))); (case side4 => exact (Kd.V_reads' ag.out).2.1); (case side5 => repeat (first | exact (Kd.V_reads' ah.out).2.2 | (with_reducible refine Kd.C_alloc ?_ _) | (with_reducible refine Kd.C_drewN ?_ _) | (with_reducible refine Kd.C_drew ?_))); (case side6 => exact (Kd.V_reads' ah.out).2.1); rintro e w89 ⟨v399, rfl, ho0, hb⟩; refine ⟨_, rfl, ?_⟩; have n0_ := Aside0.mk (Kd.V_below (zV ak.out) hb); have n1_ := Aside0.mk (Kd.V_below (zV al.out) hb); have n2_ := Aside0.mk (Kd.V_below (zV am.out) hb); have n3_ := Aside0.mk (Kd.V_below (zV af.out) hb); have n4_ := Aside0.mk (Kd.V_below (zV ag.out) hb); have n5_ := Aside0.mk (Kd.V_below (zV ah.out) hb); have n6_ := Aside0.mk (Kd.V_lower (Kd.V_mono (ok' := fun k_ => ((au k_ ∨ av k_ ∨ aw k_) ∨ w.heap.size ≤ k_) ∧ k_ ≠ ac ∧ k_ ≠ ab) ho0 (fun k_ hk_ => ⟨(.inr (Nat.le_trans (below_size (by repeat (first | (with_reducible first | exact HB.out | apply pA | apply pN | apply pD | refine pS ?_ aD.out | refine pS ?_ aE.out) | exact HB.out))) hk_)), (Kd.freshB (g := ac) (o := .cells #[.int .i64 aG, .slice aI ay.length aJ, .slice aK az.length aL, .slice aM aA.length aN, .string aC, .int .i64 ax, .int .u8 aB] 44 (0, 0)) (zB aq.out) k_ hk_), (Kd.freshB (g := ab) (o := .cells #[.int .i64 aR, .slice bC aO.length bD, .slice bE aP.length bF, .slice bG aQ.length bH] 26 (0, 0)) (zB ae.out) k_ hk_)⟩)) (below_size (by repeat (first | (with_reducible first | exact HB.out | apply pA | apply pN | apply pD | refine pS ?_ aD.out | refine pS ?_ aE.out) | exact HB.out)))); have n7_ := Aside0.mk (blk_below (g := ac) (o := .cells #[.int .i64 aG, .slice aI ay.length aJ, .slice aK az.length aL, .slice aM aA.length aN, .string aC, .int .i64 ax, .int .u8 aB] 44 (0, 0)) (zB aq.out) hb); have n8_ := Aside0.mk (blk_below (g := ab) (o := .cells #[.int .i64 aR, .slice bC aO.length bD, .slice bE aP.length bF, .slice bG aQ.length bH] 26 (0, 0)) (zB ae.out) hb); have n9_ := Aside0.mk (below_step (by repeat (first | (with_reducible first | exact HB.out | apply pA | apply pN | apply pD | refine pS ?_ aD.out | refine pS ?_ aE.out) | exact HB.out)) hb); clear ak; clear al; clear am; clear af; clear ag; clear ah; clear aq; clear ae; clear HB; have ak := n0_; have al := n1_; have am := n2_; have af := n3_; have ag := n4_; have ah := n5_; have cI := n6_; have aq := n7_; have ae := n8_; have HB := n9_; clear n0_ n1_ n2_ n3_ n4_ n5_ n6_ n7_ n8_ n9_; (try clear hb); (try clear hb2); (try clear hk); (try clear hi); (try clear ho0); obtain ⟨eE, eF, eG, eH, eI, eJ, eK, eL⟩ := bk4 ae.out) | (go_at_call 13; (with_reducible refine (gate_Locked.calls aR _ _ aO _ _ aP _ _ aQ aC (wrap64 (ax + (wrap64 (aB)))) bA _ ?side1 ?side2 ?side3 ?side4 ?side5 ?side6 eQ.out).mono ?_); (case side1 => repeat (first | exact (Kd.V_reads' af.out).2.2 | (with_reducible refine Kd.C_alloc ?_ _) | (with_reducible refine Kd.C_drewN ?_ _) | (with_reducible refine Kd.C_drew ?_))); (case side2 => exact (Kd.V_reads' af.out).2.1); (case side3 => repeat (first | exact (Kd.V_reads' ag.out).2.2 | (with_reducible refine Kd.C_alloc ?_ _) | (with_reducible refine Kd.C_drewN ?_ _) | (with_reducible refine Kd.C_drew ?_))); (case side4 => exact (Kd.V_reads' ag.out).2.1); (case side5 => repeat (first | exact (Kd.V_reads' ah.out).2.2 | (with_reducible refine Kd.C_alloc ?_ _) | (with_reducible refine Kd.C_drewN ?_ _) | (with_reducible refine Kd.C_drew ?_))); (case side6 => exact (Kd.V_reads' ah.out).2.1); rintro e w91 ⟨rfl, hb⟩; have n0_ := Aside0.mk (Kd.V_below (zV ak.out) hb); have n1_ := Aside0.mk (Kd.V_below (zV al.out) hb); have n2_ := Aside0.mk (Kd.V_below (zV am.out) hb); have n3_ := Aside0.mk (Kd.V_below (zV af.out) hb); have n4_ := Aside0.mk (Kd.V_below (zV ag.out) hb); have n5_ := Aside0.mk (Kd.V_below (zV ah.out) hb); have n6_ := Aside0.mk (Kd.V_below (zV cI.out) hb); have n7_ := Aside0.mk (blk_below (g := ac) (o := .cells #[.int .i64 aG, .slice aI ay.length aJ, .slice aK az.length aL, .slice aM aA.length aN, .string aC, .int .i64 ax, .int .u8 aB] 44 (0, 0)) (zB aq.out) hb); have n8_ := Aside0.mk (blk_below (g := ab) (o := .cells #[.int .i64 aR, .slice bC aO.length bD, .slice bE aP.length bF, .slice bG aQ.length bH] 26 (0, 0)) (zB ae.out) hb); have n9_ := Aside0.mk (below_step (by repeat (first | (with_reducible first | exact HB.out | apply pA | apply pN | apply pD | refine pS ?_ aD.out | refine pS ?_ aE.out) | exact HB.out)) hb); clear ak; clear al; clear am; clear af; clear ag; clear ah; clear cI; clear aq; clear ae; clear HB; have ak := n0_; have al := n1_; have am := n2_; have af := n3_; have ag := n4_; have ah := n5_; have cI := n6_; have aq := n7_; have ae := n8_; have HB := n9_; clear n0_ n1_ n2_ n3_ n4_ n5_ n6_ n7_ n8_ n9_; (try clear hb); (try clear hb2); (try clear hk); (try clear hi)))
           go_ret
           exact ⟨by first | rfl | (simp [errW_none, errW_some] <;> rfl) | (simp [*, errW_none, errW_some] <;> rfl), by repeat (first | (with_reducible first | exact HB.out | apply pA | apply pN | apply pD | refine pS ?_ aD.out | refine pS ?_ aE.out) | exact HB.out)⟩
          ·rw [if_neg c78] at H
           have du : (bw == (decide ((wrap64 (ax + (wrap64 (aB)))) ≥ a7))) = false := by simpa using c78
           (try (have dv : decide (bw = (decide ((wrap64 (ax + (wrap64 (aB)))) ≥ a7))) = false := by simpa using c78))
           (try (have dw : (bw == (decide ((wrap64 (ax + (wrap64 (aB)))) ≥ a7))) = false := by simpa using c78))
           (try (have fc : ¬ (bw = (decide ((wrap64 (ax + (wrap64 (aB)))) ≥ a7))) := by simpa using c78))
           clear c78
           exact absurd ((Option.some.inj H).trans hlaw_.out) (by decide)
         ·rw [if_neg c77] at H
          have dr : (a7 == (wrap64 (bz + 20))) = false := beq_eq_false_iff_ne.mpr c77
          have dt : (a7 != (wrap64 (bz + 20))) = true := bne_iff_ne.mpr c77
          exact absurd ((Option.some.inj H).trans hlaw_.out) (by decide)
        ·rw [if_neg c76] at H
         have dq : decide (3 ≤ bB) = false := decide_eq_false c76
         clear c76
         exact absurd ((Option.some.inj H).trans hlaw_.out) (by decide)
       ·replace c75 := Bool.eq_false_iff.mpr c75
        subst c75
        have H1 : (some false) = some r := by rw [if_neg (show ¬ (false = true) by decide)] at H; exact H
        clear H
        have H := H1
        clear H1
        exact absurd ((Option.some.inj H).trans hlaw_.out) (by decide)

end Go.Proofs.Ytocjadhpaecpaaa.Q

-- written by this session's own program (wip/tools/myprint.py), over the kit's print
import Derived.Test.YtocjadhpaecpaaaQx0
import Derived.Test.YtocjadhpaecpaaaQx10
import Derived.Test.YtocjadhpaecpaaaQx11
import Derived.Test.YtocjadhpaecpaaaQx17
import Derived.Test.YtocjadhpaecpaaaQx18
import Derived.Test.YtocjadhpaecpaaaQx24
import Derived.Test.YtocjadhpaecpaaaQx31
namespace Go.Proofs.Ytocjadhpaecpaaa.Q
open Go.RowKit Go.Proofs.YtocjadhpaecpaaaW.PrintWords Go.Proofs.YtocjadhpaecpaaaW.PrintLast Go.Proofs.YtocjadhpaecpaaaW.PrintMore
open Go.Proofs.YtocjadhpaecpaaaV
attribute [local go_sem] max2_int min2_int max_two min_two max_three min_three max_four min_four   -- for this text's walks alone
set_option linter.unusedVariables false
set_option linter.unusedSimpArgs false

/-! ### portreevelaw16_GateRight: function 8 -/
def portreevelaw16_GateRight.l0 : Nat → Bool → List (S41) → Int → Int → List (S76) → List (S72) → List (S64) → Int → List (S76) → List (S72) → List (S64) → Option (Bool)
 | 0, _, _, _, _, _, _, _, _, _, _, _ => none
 | k + 1, x7, x9, x11, x477000, x477001, x477002, x477003, x484000, x484001, x484002, x484003 => if x11 < (x9.length : Int) then (if 0 ≤ x11 then ((portreeveref04_Apply.f k x484000 x484001 x484002 x484003 ((rd_T41 x9 x11).f0) ((rd_T41 x9 x11).f1) ((rd_T41 x9 x11).f2) ((rd_T41 x9 x11).f3) ((rd_T41 x9 x11).f4) ((rd_T41 x9 x11).f5) ((rd_T41 x9 x11).f6) ((rd_T41 x9 x11).f7) ((rd_T41 x9 x11).f8)).bind fun bt485 => (portreevelaw16_GateRight.l0 k x7 x9 (wrap64 (x11 + 1)) x477000 x477001 x477002 x477003 bt485.1 bt485.2.1 bt485.2.2.1 bt485.2.2.2.1)) else (none)) else (if x7 = true then ((portreeveref04_Right.f k x484000 x484001 x484002 x484003).bind fun t498 => (if t498 = true then ((portreeveref04_Same.f k x484000 x484001 x484002 x484003 x477000 x477001 x477002 x484003).bind fun t499 => (if t499 = true then (some (decide ((x9.length : Int) ≤ 1))) else (some false))) else (some false))) else (some false))
def portreevelaw16_GateRight.f (k : Nat) (a0_0 : Int) (l0_1 : List (S76)) (l0_2 : List (S72)) (l0_3 : List (S64)) (a0_4 : ByteArray) (a0_5 : Bool) (a0_6 : Int) : Option (Bool) := (portreevelaw16_shown.f k).bind fun t477 => ((portreevelaw16_may.f k a0_0 l0_1 l0_2 l0_3 a0_4 a0_6).bind fun t478 => (if t478 = true then ((gate_Verdict.f k a0_0 l0_1 l0_2 l0_3 a0_4 true a0_5 a0_6).bind fun bt479 => (portreevelaw16_GateRight.l0 k t477 bt479.2 0 a0_0 l0_1 l0_2 l0_3 a0_0 l0_1 l0_2 l0_3)) else (some t477)))
theorem portreevelaw16_GateRight.mono_l : ∀ k, (∀ y0 y1 y2 y3 y4 y5 y6 y7 y8 y9 y10, LeO (portreevelaw16_GateRight.l0 k y0 y1 y2 y3 y4 y5 y6 y7 y8 y9 y10) (portreevelaw16_GateRight.l0 (k + 1) y0 y1 y2 y3 y4 y5 y6 y7 y8 y9 y10))
 | 0 => fun _ _ _ _ _ _ _ _ _ _ _ r h => by simp [portreevelaw16_GateRight.l0] at h
 | k + 1 => by
  have ih0 := portreevelaw16_GateRight.mono_l k
  ·intro y0 y1 y2 y3 y4 y5 y6 y7 y8 y9 y10
   unfold portreevelaw16_GateRight.l0
   repeat' first
   | (with_reducible exact ih0 _ _ _ _ _ _ _ _ _ _ _)
   | (with_reducible exact gate_Verdict.mono _ _ _ _ _ _ _ _ _)
   | (with_reducible exact portreevelaw16_may.mono _ _ _ _ _ _ _)
   | (with_reducible exact portreevelaw16_shown.mono _)
   | (with_reducible exact portreeveref04_Apply.mono _ _ _ _ _ _ _ _ _ _ _ _ _ _)
   | (with_reducible exact portreeveref04_Right.mono _ _ _ _ _)
   | (with_reducible exact portreeveref04_Same.mono _ _ _ _ _ _ _ _ _)
   | (with_reducible exact LeO.refl _)
   | (with_reducible exact LeO.none _)
   | (with_reducible refine LeO.ite ?_ ?_)
   | (with_reducible refine LeO.bind ?_ (fun _ => ?_))
   | exact ih0 _ _ _ _ _ _ _ _ _ _ _
   | exact gate_Verdict.mono _ _ _ _ _ _ _ _ _
   | exact portreevelaw16_may.mono _ _ _ _ _ _ _
   | exact portreevelaw16_shown.mono _
   | exact portreeveref04_Apply.mono _ _ _ _ _ _ _ _ _ _ _ _ _ _
   | exact portreeveref04_Right.mono _ _ _ _ _
   | exact portreeveref04_Same.mono _ _ _ _ _ _ _ _ _
   | exact LeO.none _
   | refine LeO.ite ?_ ?_
   | refine LeO.bind ?_ (fun _ => ?_)
theorem portreevelaw16_GateRight.mono : ∀ a0 a1 a2 a3 a4 a5 a6 k, LeO (portreevelaw16_GateRight.f k a0 a1 a2 a3 a4 a5 a6) (portreevelaw16_GateRight.f (k + 1) a0 a1 a2 a3 a4 a5 a6) := by
 intro a0 a1 a2 a3 a4 a5 a6 k
 have ih0 := portreevelaw16_GateRight.mono_l k
 unfold portreevelaw16_GateRight.f
 repeat' first
   | (with_reducible exact ih0 _ _ _ _ _ _ _ _ _ _ _)
   | (with_reducible exact gate_Verdict.mono _ _ _ _ _ _ _ _ _)
   | (with_reducible exact portreevelaw16_may.mono _ _ _ _ _ _ _)
   | (with_reducible exact portreevelaw16_shown.mono _)
   | (with_reducible exact portreeveref04_Apply.mono _ _ _ _ _ _ _ _ _ _ _ _ _ _)
   | (with_reducible exact portreeveref04_Right.mono _ _ _ _ _)
   | (with_reducible exact portreeveref04_Same.mono _ _ _ _ _ _ _ _ _)
   | (with_reducible exact LeO.refl _)
   | (with_reducible exact LeO.none _)
   | (with_reducible refine LeO.ite ?_ ?_)
   | (with_reducible refine LeO.bind ?_ (fun _ => ?_))
   | exact ih0 _ _ _ _ _ _ _ _ _ _ _
   | exact gate_Verdict.mono _ _ _ _ _ _ _ _ _
   | exact portreevelaw16_may.mono _ _ _ _ _ _ _
   | exact portreevelaw16_shown.mono _
   | exact portreeveref04_Apply.mono _ _ _ _ _ _ _ _ _ _ _ _ _ _
   | exact portreeveref04_Right.mono _ _ _ _ _
   | exact portreeveref04_Same.mono _ _ _ _ _ _ _ _ _
   | exact LeO.none _
   | refine LeO.ite ?_ ?_
   | refine LeO.bind ?_ (fun _ => ?_)
def portreevelaw16_GateRight.T13 : Bool × List (List Nat × List Nat) := (true, [([], []), ([], []), ([], []), ([1, 2], [1, 2]), ([3], [3]), ([0, 4], [0, 4]), ([5], [5]), ([6], [6]), ([6], [6]), ([], []), ([9, 7, 5, 0, 1, 2, 3, 4, 5, 6, 7, 9], [7, 9]), ([8, 10, 0, 1, 2, 3, 4, 5, 6, 7, 8, 9, 10], [8])])
def portreevelaw16_GateRight.B13 : List Nat := [0, 0, 0, 6, 14, 31, 63, 127, 127, 0, 767, 2047]
theorem portreevelaw16_GateRight.tab13 : rtab .any (opsOf Try.f8 13) = portreevelaw16_GateRight.T13 := by kernel_rfl
theorem portreevelaw16_GateRight.bits13 : waitsOk portreevelaw16_GateRight.T13.2 portreevelaw16_GateRight.B13 = true := by kernel_rfl
set_option maxHeartbeats 8000000 in
set_option maxRecDepth 100000 in
theorem portreevelaw16_GateRight.calls (k : Nat) (ah : Int) (aE : Nat → Prop) (am : Option Addr) (an : Nat) (ae : List (S76)) (aF : Nat → Prop) (aq : Option Addr) (ar : Nat) (af : List (S72)) (aG : Nat → Prop) (az : Option Addr) (aA : Nat) (ai : List (S64)) (aN : ByteArray) (aT : Bool) (aO : Int) (r : Bool) (w : World) (hlaw_ : Aside0 (r = true)) (hs0_1 : Kd.V k76 76 w w.heap.size (fun k_ => aE k_) (.slice am ae.length an) ae) (hs0_2 : Kd.V k72 72 w w.heap.size (fun k_ => aF k_) (.slice aq af.length ar) af) (hs0_3 : Kd.V k64 64 w w.heap.size (fun k_ => aG k_) (.slice az ai.length aA) ai) (h : portreevelaw16_GateRight.f k ah ae af ai aN aT aO = some r) :
  Calls Try.prog 8 #[.agg #[.int .i64 ah, .slice am ae.length an, .slice aq af.length ar, .slice az ai.length aA, .string aN, .bool aT, .int .i64 aO]] w fun e w' => e = .returned (.bool r) ∧ Below w.heap.size w w' := by
 have hu59 := Try.underlying59
 have hu26 := Try.underlying26
 have hu41 := Try.underlying41
 have aQ := Aside0.mk (show Kd.V k76 76 w w.heap.size (fun k_ => ((aE k_ ∨ aF k_ ∨ aG k_) ∨ w.heap.size ≤ k_)) (.slice am ae.length an) ae from Kd.V_mono hs0_1 (fun k_ hk => .inl (.inl hk)))
 have aR := Aside0.mk (show Kd.V k72 72 w w.heap.size (fun k_ => ((aE k_ ∨ aF k_ ∨ aG k_) ∨ w.heap.size ≤ k_)) (.slice aq af.length ar) af from Kd.V_mono hs0_2 (fun k_ hk => .inl (.inr (.inl hk))))
 have aS := Aside0.mk (show Kd.V k64 64 w w.heap.size (fun k_ => ((aE k_ ∨ aF k_ ∨ aG k_) ∨ w.heap.size ≤ k_)) (.slice az ai.length aA) ai from Kd.V_mono hs0_3 (fun k_ hk => .inl (.inr (.inr hk))))
 have HB := Aside0.mk (Below.refl w.heap.size w)
 have H : ((portreevelaw16_shown.f k).bind fun bi => ((portreevelaw16_may.f k ah ae af ai aN aO).bind fun bA => (if bA = true then ((gate_Verdict.f k ah ae af ai aN true aT aO).bind fun bs => (portreevelaw16_GateRight.l0 k bi bs.2 0 ah ae af ai ah ae af ai)) else (some bi)))) = some r := h
 clear h
 replace H := Option.bind_eq_some_iff.mp H
 obtain ⟨bi, dj, H⟩ := H
 replace H : ((portreevelaw16_may.f k ah ae af ai aN aO).bind fun bA => (if bA = true then ((gate_Verdict.f k ah ae af ai aN true aT aO).bind fun bs => (portreevelaw16_GateRight.l0 k bi bs.2 0 ah ae af ai ah ae af ai)) else (some bi))) = some r := H
 have A2 := Aside0.mk dj
 clear dj
 replace H := Option.bind_eq_some_iff.mp H
 obtain ⟨bA, dk, H⟩ := H
 replace H : (if bA = true then ((gate_Verdict.f k ah ae af ai aN true aT aO).bind fun bs => (portreevelaw16_GateRight.l0 k bi bs.2 0 ah ae af ai ah ae af ai)) else (some bi)) = some r := H
 have A3 := Aside0.mk dk
 clear dk
 by_cases c4 : bA = true
 ·subst c4
  have H1 : ((gate_Verdict.f k ah ae af ai aN true aT aO).bind fun bs => (portreevelaw16_GateRight.l0 k bi bs.2 0 ah ae af ai ah ae af ai)) = some r := by rw [if_pos rfl] at H; exact H
  clear H
  have H := H1
  clear H1
  replace H := Option.bind_eq_some_iff.mp H
  obtain ⟨⟨dn, aB⟩, bS, H⟩ := H
  replace H : (portreevelaw16_GateRight.l0 k bi aB 0 ah ae af ai ah ae af ai) = some r := H
  have A5 := Aside0.mk bS
  clear bS
  have H' := Aside0.mk H
  clear H
  go_enter Try.func8, Try.ntmps8
  go_wp2_with (first | ((with_reducible refine gate_dst (N := 1) rfl ?_); (try (refine gate_guard (by rfl) ?_; dsimp only)); refine box_event ?hg (N := 1) ?hd (cs := #[.int .i64 ah, .slice am ae.length an, .slice aq af.length ar, .slice az ai.length aA, .string aN, .bool aT, .int .i64 aO]) (t := 59) ?hr ?_; (case hd => rfl); (case hg => rfl); (case hr => first | (go_simp; done) | (go_simp; rfl)); intro ac hg w6 hbox hb; have n0_ := Aside0.mk (Kd.V_below (Kd.V_elderB (zV aQ.out) ac (Nat.le_of_eq hg.symm)) hb); have n1_ := Aside0.mk (Kd.V_below (Kd.V_elderB (zV aR.out) ac (Nat.le_of_eq hg.symm)) hb); have n2_ := Aside0.mk (Kd.V_below (Kd.V_elderB (zV aS.out) ac (Nat.le_of_eq hg.symm)) hb); have n3_ := Aside0.mk (below_step (zH HB.out) hb); have n4_ := Aside0.mk (hbox); have n5_ := Aside0.mk ((by rw [hg]; exact (below_size (zH HB.out)) : w.heap.size ≤ ac)); have n6_ := Aside0.mk ((by rw [hg]; exact (below_size (zH HB.out)) : w.heap.size ≤ ac)); clear aQ; clear aR; clear aS; clear HB; have aQ := n0_; have aR := n1_; have aS := n2_; have HB := n3_; have ak := n4_; have dg := n5_; have aM := n6_; clear n0_ n1_ n2_ n3_ n4_ n5_ n6_; clear hb hbox hg; obtain ⟨cM, cN, cO, cP, cQ, cR, cS, cT, cU, cV, cW, cX, cY, cZ⟩ := bk7 ak.out) | ((with_reducible refine gate_dst (N := 3) rfl ?_); (try (refine gate_guard (by rfl) ?_; dsimp only)); refine box_event ?hg (N := 3) ?hd (cs := #[.int .i64 0, .slice none 0 0, .slice none 0 0, .slice none 0 0]) (t := 26) ?hr ?_; (case hd => rfl); (case hg => rfl); (case hr => first | (go_simp; done) | (go_simp; rfl)); intro ad hg w8 hbox hb; have n0_ := Aside0.mk (Kd.V_below (Kd.V_elderB (zV aQ.out) ad (Nat.le_of_eq hg.symm)) hb); have n1_ := Aside0.mk (Kd.V_below (Kd.V_elderB (zV aR.out) ad (Nat.le_of_eq hg.symm)) hb); have n2_ := Aside0.mk (Kd.V_below (Kd.V_elderB (zV aS.out) ad (Nat.le_of_eq hg.symm)) hb); have n3_ := Aside0.mk (blk_below (g := ac) (o := .cells #[.int .i64 ah, .slice am ae.length an, .slice aq af.length ar, .slice az ai.length aA, .string aN, .bool aT, .int .i64 aO] 59 (0, 0)) (zB ak.out) hb); have n4_ := Aside0.mk (below_step (by repeat (first | (with_reducible first | exact HB.out | apply pA | apply pN | apply pD | refine pS ?_ aM.out) | exact HB.out)) hb); have n5_ := Aside0.mk (hbox); have n6_ := Aside0.mk ((by rw [hg]; exact (below_size (by repeat (first | (with_reducible first | exact HB.out | apply pA | apply pN | apply pD | refine pS ?_ aM.out) | exact HB.out))) : w.heap.size ≤ ad)); have n7_ := Aside0.mk ((by rw [hg]; exact (below_size (by repeat (first | (with_reducible first | exact HB.out | apply pA | apply pN | apply pD | refine pS ?_ aM.out) | exact HB.out))) : w.heap.size ≤ ad)); have n8_ := Aside0.mk ((by rw [hg]; exact Nat.ne_of_lt (blk_lt (g := ac) (o := .cells #[.int .i64 ah, .slice am ae.length an, .slice aq af.length ar, .slice az ai.length aA, .string aN, .bool aT, .int .i64 aO] 59 (0, 0)) (zB ak.out)) : ac ≠ ad)); have n9_ := Aside0.mk ((by rw [hg]; exact Nat.ne_of_gt (blk_lt (g := ac) (o := .cells #[.int .i64 ah, .slice am ae.length an, .slice aq af.length ar, .slice az ai.length aA, .string aN, .bool aT, .int .i64 aO] 59 (0, 0)) (zB ak.out)) : ad ≠ ac)); clear aQ; clear aR; clear aS; clear ak; clear HB; have aQ := n0_; have aR := n1_; have aS := n2_; have ak := n3_; have HB := n4_; have ap := n5_; have dh := n6_; have aP := n7_; have bj := n8_; have bp := n9_; clear n0_ n1_ n2_ n3_ n4_ n5_ n6_ n7_ n8_ n9_; clear hb hbox hg; have fK := bp.out; have fL := bj.out; obtain ⟨bT, bU, bV, bW, bX, bY, bZ, b0⟩ := bk4 ap.out; obtain ⟨b1, b2, b3, b4, b5, b6, b7, b8, b9, ca, cb, cc, cd, ce⟩ := bk7 ak.out) | ((with_reducible refine gate_callee (f := 9) rfl ?_); refine goesL_ (some 23) rfl rfl Try.func9 (by kernel_rfl) rfl #[] rfl (by (try simp only [List.map_toArray, List.map_cons, List.map_nil]); first | done | rfl | (simp only [List.length_drop, List.length_take]; rfl)) ?_; (with_reducible refine (portreevelaw16_shown.calls k  bi _ A2.out).mono ?_); rintro e w12 ⟨rfl, hb⟩; refine ⟨_, rfl, ?_⟩; have n0_ := Aside0.mk (Kd.V_below (fV aQ.out (fun k_ hk => (⟨hk, hk.2⟩ : _ ∧ k_ ≠ ad)) (fun _ h_ => h_.1)) hb); have n1_ := Aside0.mk (Kd.V_below (fV aR.out (fun k_ hk => (⟨hk, hk.2⟩ : _ ∧ k_ ≠ ad)) (fun _ h_ => h_.1)) hb); have n2_ := Aside0.mk (Kd.V_below (fV aS.out (fun k_ hk => (⟨hk, hk.2⟩ : _ ∧ k_ ≠ ad)) (fun _ h_ => h_.1)) hb); have n3_ := Aside0.mk (blk_below (g := ac) (o := .cells #[.int .i64 ah, .slice am ae.length an, .slice aq af.length ar, .slice az ai.length aA, .string aN, .bool aT, .int .i64 aO] 59 (0, 0)) (fB bj.out ak.out) hb); have n4_ := Aside0.mk (blk_below (g := ad) (o := .cells #[.int .i64 ah, .slice am ae.length an, .slice aq af.length ar, .slice az ai.length aA] 26 (0, 0)) (by (with_reducible repeat (first | refine qN ?_ _ | refine qD ?_ | refine qA ?_ _)); refine blk_put (cs := #[.int .i64 ah, .slice am ae.length an, .slice aq af.length ar, .slice none 0 0]) ?_ 3 _ rfl; (with_reducible repeat (first | refine qN ?_ _ | refine qD ?_ | refine qA ?_ _)); refine blk_put (cs := #[.int .i64 ah, .slice am ae.length an, .slice none 0 0, .slice none 0 0]) ?_ 2 _ rfl; (with_reducible repeat (first | refine qN ?_ _ | refine qD ?_ | refine qA ?_ _)); refine blk_put (cs := #[.int .i64 ah, .slice none 0 0, .slice none 0 0, .slice none 0 0]) ?_ 1 _ rfl; (with_reducible repeat (first | refine qN ?_ _ | refine qD ?_ | refine qA ?_ _)); refine blk_put (cs := #[.int .i64 0, .slice none 0 0, .slice none 0 0, .slice none 0 0]) ?_ 0 _ rfl; (with_reducible repeat (first | refine qN ?_ _ | refine qD ?_ | refine qA ?_ _)); exact ap.out) hb); have n5_ := Aside0.mk (below_step (by repeat (first | (with_reducible first | exact HB.out | apply pA | apply pN | apply pD | refine pS ?_ aM.out | refine pS ?_ aP.out) | exact HB.out)) hb); clear aQ; clear aR; clear aS; clear ak; clear ap; clear HB; have aQ := n0_; have aR := n1_; have aS := n2_; have ak := n3_; have ap := n4_; have HB := n5_; clear n0_ n1_ n2_ n3_ n4_ n5_; (try clear hb); (try clear hb2); (try clear hk); (try clear hi); obtain ⟨cf, cg, ch, ci, cj, ck, cl, cm⟩ := bk4 ap.out) | ((with_reducible refine gate_callee (f := 10) rfl ?_); refine goesL_ (some 27) rfl rfl Try.func10 (by kernel_rfl) rfl #[.agg #[.int .i64 ah, .slice am ae.length an, .slice aq af.length ar, .slice az ai.length aA], .string aN, .int .i64 aO] rfl (by (try simp only [List.map_toArray, List.map_cons, List.map_nil]); first | done | rfl | (simp only [List.length_drop, List.length_take]; rfl)) ?_; (with_reducible refine (portreevelaw16_may.calls k ah _ _ ae _ _ af _ _ ai aN aO true _ ?side1 ?side2 ?side3 ?side4 ?side5 ?side6 A3.out).mono ?_); (case side1 => repeat (first | exact (Kd.V_reads' aQ.out).2.2 | (with_reducible refine Kd.C_alloc ?_ _) | (with_reducible refine Kd.C_drewN ?_ _) | (with_reducible refine Kd.C_drew ?_))); (case side2 => exact (Kd.V_reads' aQ.out).2.1); (case side3 => repeat (first | exact (Kd.V_reads' aR.out).2.2 | (with_reducible refine Kd.C_alloc ?_ _) | (with_reducible refine Kd.C_drewN ?_ _) | (with_reducible refine Kd.C_drew ?_))); (case side4 => exact (Kd.V_reads' aR.out).2.1); (case side5 => repeat (first | exact (Kd.V_reads' aS.out).2.2 | (with_reducible refine Kd.C_alloc ?_ _) | (with_reducible refine Kd.C_drewN ?_ _) | (with_reducible refine Kd.C_drew ?_))); (case side6 => exact (Kd.V_reads' aS.out).2.1); rintro e w14 ⟨rfl, hb⟩; refine ⟨_, rfl, ?_⟩; have n0_ := Aside0.mk (Kd.V_below (zV aQ.out) hb); have n1_ := Aside0.mk (Kd.V_below (zV aR.out) hb); have n2_ := Aside0.mk (Kd.V_below (zV aS.out) hb); have n3_ := Aside0.mk (blk_below (g := ac) (o := .cells #[.int .i64 ah, .slice am ae.length an, .slice aq af.length ar, .slice az ai.length aA, .string aN, .bool aT, .int .i64 aO] 59 (0, 0)) (zB ak.out) hb); have n4_ := Aside0.mk (blk_below (g := ad) (o := .cells #[.int .i64 ah, .slice am ae.length an, .slice aq af.length ar, .slice az ai.length aA] 26 (0, 0)) (zB ap.out) hb); have n5_ := Aside0.mk (below_step (by repeat (first | (with_reducible first | exact HB.out | apply pA | apply pN | apply pD | refine pS ?_ aM.out | refine pS ?_ aP.out) | exact HB.out)) hb); clear aQ; clear aR; clear aS; clear ak; clear ap; clear HB; have aQ := n0_; have aR := n1_; have aS := n2_; have ak := n3_; have ap := n4_; have HB := n5_; clear n0_ n1_ n2_ n3_ n4_ n5_; (try clear hb); (try clear hb2); (try clear hk); (try clear hi); obtain ⟨cn, co, cp, cq, cr, ct, cu, cv⟩ := bk4 ap.out) | ((with_reducible refine gate_callee (f := 11) rfl ?_); refine goesL_ (some 35) rfl rfl Try.func11 (by kernel_rfl) rfl #[.agg #[.int .i64 ah, .slice am ae.length an, .slice aq af.length ar, .slice az ai.length aA], .string aN, .bool true, .bool aT, .int .i64 aO] rfl (by (try simp only [List.map_toArray, List.map_cons, List.map_nil]); first | done | rfl | (simp only [List.length_drop, List.length_take]; rfl)) ?_; (with_reducible refine (gate_Verdict.calls k ah _ _ ae _ _ af _ _ ai aN true aT aO dn aB _ ?side1 ?side2 ?side3 ?side4 ?side5 ?side6 A5.out).mono ?_); (case side1 => repeat (first | exact (Kd.V_reads' aQ.out).2.2 | (with_reducible refine Kd.C_alloc ?_ _) | (with_reducible refine Kd.C_drewN ?_ _) | (with_reducible refine Kd.C_drew ?_))); (case side2 => exact (Kd.V_reads' aQ.out).2.1); (case side3 => repeat (first | exact (Kd.V_reads' aR.out).2.2 | (with_reducible refine Kd.C_alloc ?_ _) | (with_reducible refine Kd.C_drewN ?_ _) | (with_reducible refine Kd.C_drew ?_))); (case side4 => exact (Kd.V_reads' aR.out).2.1); (case side5 => repeat (first | exact (Kd.V_reads' aS.out).2.2 | (with_reducible refine Kd.C_alloc ?_ _) | (with_reducible refine Kd.C_drewN ?_ _) | (with_reducible refine Kd.C_drew ?_))); (case side6 => exact (Kd.V_reads' aS.out).2.1); rintro e w16 ⟨v481, rfl, ho0, hb⟩; refine ⟨_, rfl, ?_⟩; have n0_ := Aside0.mk (Kd.V_below (zV aQ.out) hb); have n1_ := Aside0.mk (Kd.V_below (zV aR.out) hb); have n2_ := Aside0.mk (Kd.V_below (zV aS.out) hb); have n3_ := Aside0.mk (Kd.V_lower (Kd.V_mono (ok' := fun k_ => ((aE k_ ∨ aF k_ ∨ aG k_) ∨ w.heap.size ≤ k_) ∧ k_ ≠ ac ∧ k_ ≠ ad) ho0 (fun k_ hk_ => ⟨(.inr (Nat.le_trans (below_size (by repeat (first | (with_reducible first | exact HB.out | apply pA | apply pN | apply pD | refine pS ?_ aM.out | refine pS ?_ aP.out) | exact HB.out))) hk_)), (Kd.freshB (g := ac) (o := .cells #[.int .i64 ah, .slice am ae.length an, .slice aq af.length ar, .slice az ai.length aA, .string aN, .bool aT, .int .i64 aO] 59 (0, 0)) (zB ak.out) k_ hk_), (Kd.freshB (g := ad) (o := .cells #[.int .i64 ah, .slice am ae.length an, .slice aq af.length ar, .slice az ai.length aA] 26 (0, 0)) (zB ap.out) k_ hk_)⟩)) (below_size (by repeat (first | (with_reducible first | exact HB.out | apply pA | apply pN | apply pD | refine pS ?_ aM.out | refine pS ?_ aP.out) | exact HB.out)))); have n4_ := Aside0.mk (blk_below (g := ac) (o := .cells #[.int .i64 ah, .slice am ae.length an, .slice aq af.length ar, .slice az ai.length aA, .string aN, .bool aT, .int .i64 aO] 59 (0, 0)) (zB ak.out) hb); have n5_ := Aside0.mk (blk_below (g := ad) (o := .cells #[.int .i64 ah, .slice am ae.length an, .slice aq af.length ar, .slice az ai.length aA] 26 (0, 0)) (zB ap.out) hb); have n6_ := Aside0.mk (below_step (by repeat (first | (with_reducible first | exact HB.out | apply pA | apply pN | apply pD | refine pS ?_ aM.out | refine pS ?_ aP.out) | exact HB.out)) hb); clear aQ; clear aR; clear aS; clear ak; clear ap; clear HB; have aQ := n0_; have aR := n1_; have aS := n2_; have bE := n3_; have ak := n4_; have ap := n5_; have HB := n6_; clear n0_ n1_ n2_ n3_ n4_ n5_ n6_; (try clear hb); (try clear hb2); (try clear hk); (try clear hi); (try clear ho0); obtain ⟨cw, cx, cy, cz, cA, cB, cC, cD⟩ := bk4 ap.out) | ((with_reducible refine gate_dst (N := 10) rfl ?_); (try (refine gate_guard (by rfl) ?_; dsimp only)); refine box_event ?hg (N := 10) ?hd (cs := #[.int .i64 0, .slice none 0 0, .slice none 0 0, .slice none 0 0]) (t := 26) ?hr ?_; (case hd => rfl); (case hg => rfl); (case hr => first | (go_simp; done) | (go_simp; rfl)); intro ab hg w18 hbox hb; have n0_ := Aside0.mk (Kd.V_below (Kd.V_elderB (zV aQ.out) ab (Nat.le_of_eq hg.symm)) hb); have n1_ := Aside0.mk (Kd.V_below (Kd.V_elderB (zV aR.out) ab (Nat.le_of_eq hg.symm)) hb); have n2_ := Aside0.mk (Kd.V_below (Kd.V_elderB (zV aS.out) ab (Nat.le_of_eq hg.symm)) hb); have n3_ := Aside0.mk (Kd.V_below (Kd.V_elderB (zV bE.out) ab (Nat.le_of_eq hg.symm)) hb); have n4_ := Aside0.mk (blk_below (g := ac) (o := .cells #[.int .i64 ah, .slice am ae.length an, .slice aq af.length ar, .slice az ai.length aA, .string aN, .bool aT, .int .i64 aO] 59 (0, 0)) (zB ak.out) hb); have n5_ := Aside0.mk (blk_below (g := ad) (o := .cells #[.int .i64 ah, .slice am ae.length an, .slice aq af.length ar, .slice az ai.length aA] 26 (0, 0)) (zB ap.out) hb); have n6_ := Aside0.mk (below_step (by repeat (first | (with_reducible first | exact HB.out | apply pA | apply pN | apply pD | refine pS ?_ aM.out | refine pS ?_ aP.out) | exact HB.out)) hb); have n7_ := Aside0.mk (hbox); have n8_ := Aside0.mk ((by rw [hg]; exact (below_size (by repeat (first | (with_reducible first | exact HB.out | apply pA | apply pN | apply pD | refine pS ?_ aM.out | refine pS ?_ aP.out) | exact HB.out))) : w.heap.size ≤ ab)); have n9_ := Aside0.mk ((by rw [hg]; exact (below_size (by repeat (first | (with_reducible first | exact HB.out | apply pA | apply pN | apply pD | refine pS ?_ aM.out | refine pS ?_ aP.out) | exact HB.out))) : w.heap.size ≤ ab)); have n10_ := Aside0.mk ((by rw [hg]; exact Nat.ne_of_lt (blk_lt (g := ac) (o := .cells #[.int .i64 ah, .slice am ae.length an, .slice aq af.length ar, .slice az ai.length aA, .string aN, .bool aT, .int .i64 aO] 59 (0, 0)) (zB ak.out)) : ac ≠ ab)); have n11_ := Aside0.mk ((by rw [hg]; exact Nat.ne_of_gt (blk_lt (g := ac) (o := .cells #[.int .i64 ah, .slice am ae.length an, .slice aq af.length ar, .slice az ai.length aA, .string aN, .bool aT, .int .i64 aO] 59 (0, 0)) (zB ak.out)) : ab ≠ ac)); have n12_ := Aside0.mk ((by rw [hg]; exact Nat.ne_of_lt (blk_lt (g := ad) (o := .cells #[.int .i64 ah, .slice am ae.length an, .slice aq af.length ar, .slice az ai.length aA] 26 (0, 0)) (zB ap.out)) : ad ≠ ab)); have n13_ := Aside0.mk ((by rw [hg]; exact Nat.ne_of_gt (blk_lt (g := ad) (o := .cells #[.int .i64 ah, .slice am ae.length an, .slice aq af.length ar, .slice az ai.length aA] 26 (0, 0)) (zB ap.out)) : ab ≠ ad)); clear aQ; clear aR; clear aS; clear bE; clear ak; clear ap; clear HB; have aQ := n0_; have aR := n1_; have aS := n2_; have bE := n3_; have ak := n4_; have ap := n5_; have HB := n6_; have aw := n7_; have fd := n8_; have aX := n9_; have bk := n10_; have bu := n11_; have bl := n12_; have bv := n13_; clear n0_ n1_ n2_ n3_ n4_ n5_ n6_ n7_ n8_ n9_ n10_ n11_ n12_ n13_; clear hb hbox hg; have fe := bu.out; have ff := bk.out; have fg := bv.out; have fh := bl.out; obtain ⟨cE, cF, cG, cH, cI, cJ, cK, cL⟩ := bk4 aw.out))
  go_loopg [11] k (fun kq v11 w' => ∃ (aa : Int) (av : Int) (ao : List (S76)) (al : List (S72)) (aj : List (S64)) (u484001 : Value) (u484002 : Value) (u484003 : Value), v11 = .int .i64 aa ∧ Aside0 (portreevelaw16_GateRight.l0 kq bi aB aa ah ae af ai av ao al aj = some r) ∧ Aside0 (kq ≤ k) ∧ Aside0 (Kd.V k41 41 w' w.heap.size (fun k_ => ((aE k_ ∨ aF k_ ∨ aG k_) ∨ w.heap.size ≤ k_) ∧ k_ ≠ ac ∧ k_ ≠ ad ∧ k_ ≠ ab) v481 aB) ∧ Aside0 (Kd.V k76 76 w' w.heap.size (fun k_ => ((aE k_ ∨ aF k_ ∨ aG k_) ∨ w.heap.size ≤ k_) ∧ k_ ≠ ac ∧ k_ ≠ ad ∧ k_ ≠ ab) (.slice am ae.length an) ae) ∧ Aside0 (Kd.V k72 72 w' w.heap.size (fun k_ => ((aE k_ ∨ aF k_ ∨ aG k_) ∨ w.heap.size ≤ k_) ∧ k_ ≠ ac ∧ k_ ≠ ad ∧ k_ ≠ ab) (.slice aq af.length ar) af) ∧ Aside0 (Kd.V k64 64 w' w.heap.size (fun k_ => ((aE k_ ∨ aF k_ ∨ aG k_) ∨ w.heap.size ≤ k_) ∧ k_ ≠ ac ∧ k_ ≠ ad ∧ k_ ≠ ab) (.slice az ai.length aA) ai) ∧ Aside0 (Kd.V k76 76 w' w.heap.size (fun k_ => ((aE k_ ∨ aF k_ ∨ aG k_) ∨ w.heap.size ≤ k_) ∧ k_ ≠ ac ∧ k_ ≠ ad ∧ k_ ≠ ab) (.slice am ae.length an) ae) ∧ Aside0 (Kd.V k72 72 w' w.heap.size (fun k_ => ((aE k_ ∨ aF k_ ∨ aG k_) ∨ w.heap.size ≤ k_) ∧ k_ ≠ ac ∧ k_ ≠ ad ∧ k_ ≠ ab) (.slice aq af.length ar) af) ∧ Aside0 (Kd.V k64 64 w' w.heap.size (fun k_ => ((aE k_ ∨ aF k_ ∨ aG k_) ∨ w.heap.size ≤ k_) ∧ k_ ≠ ac ∧ k_ ≠ ad ∧ k_ ≠ ab) (.slice az ai.length aA) ai) ∧ Aside0 (Kd.V k76 76 w' w.heap.size (fun k_ => ((aE k_ ∨ aF k_ ∨ aG k_) ∨ w.heap.size ≤ k_) ∧ k_ ≠ ac ∧ k_ ≠ ad ∧ k_ ≠ ab) u484001 ao) ∧ Aside0 (Kd.V k72 72 w' w.heap.size (fun k_ => ((aE k_ ∨ aF k_ ∨ aG k_) ∨ w.heap.size ≤ k_) ∧ k_ ≠ ac ∧ k_ ≠ ad ∧ k_ ≠ ab) u484002 al) ∧ Aside0 (Kd.V k64 64 w' w.heap.size (fun k_ => ((aE k_ ∨ aF k_ ∨ aG k_) ∨ w.heap.size ≤ k_) ∧ k_ ≠ ac ∧ k_ ≠ ad ∧ k_ ≠ ab) u484003 aj) ∧ Aside0 (w'.heap[ac]? = some (.cells #[.int .i64 ah, (.slice am ae.length an), (.slice aq af.length ar), (.slice az ai.length aA), .string aN, .bool aT, .int .i64 aO] 59 (0, 0))) ∧ Aside0 (w'.heap[ad]? = some (.cells #[.int .i64 ah, (.slice am ae.length an), (.slice aq af.length ar), (.slice az ai.length aA)] 26 (0, 0))) ∧ Aside0 (w'.heap[ab]? = some (.cells #[.int .i64 av, u484001, u484002, u484003] 26 (0, 0))) ∧ Aside0 (Below w.heap.size w w'))
  case atStart => exact ⟨(0), (ah), (ae), (af), (ai), (.slice am ae.length an), (.slice aq af.length ar), (.slice az ai.length aA), (by first | rfl | (simp; done) | (simp [*]; done)), H', ⟨Nat.le_refl _⟩, ⟨(fV bE.out (fun k_ hk => (⟨hk, hk.2⟩ : _ ∧ k_ ≠ ab)) (fun _ hk => ⟨hk.1.1.1, ⟨hk.1.1.2.1, ⟨hk.1.1.2.2, hk.1.2⟩⟩⟩))⟩, ⟨(fV aQ.out (fun k_ hk => (⟨hk, hk.2⟩ : _ ∧ k_ ≠ ab)) (fun _ hk => ⟨hk.1.1.1.1, ⟨hk.1.1.1.2, ⟨hk.1.1.2, hk.1.2⟩⟩⟩))⟩, ⟨(fV aR.out (fun k_ hk => (⟨hk, hk.2⟩ : _ ∧ k_ ≠ ab)) (fun _ hk => ⟨hk.1.1.1.1, ⟨hk.1.1.1.2, ⟨hk.1.1.2, hk.1.2⟩⟩⟩))⟩, ⟨(fV aS.out (fun k_ hk => (⟨hk, hk.2⟩ : _ ∧ k_ ≠ ab)) (fun _ hk => ⟨hk.1.1.1.1, ⟨hk.1.1.1.2, ⟨hk.1.1.2, hk.1.2⟩⟩⟩))⟩, ⟨(fV aQ.out (fun k_ hk => (⟨hk, hk.2⟩ : _ ∧ k_ ≠ ab)) (fun _ hk => ⟨hk.1.1.1.1, ⟨hk.1.1.1.2, ⟨hk.1.1.2, hk.1.2⟩⟩⟩))⟩, ⟨(fV aR.out (fun k_ hk => (⟨hk, hk.2⟩ : _ ∧ k_ ≠ ab)) (fun _ hk => ⟨hk.1.1.1.1, ⟨hk.1.1.1.2, ⟨hk.1.1.2, hk.1.2⟩⟩⟩))⟩, ⟨(fV aS.out (fun k_ hk => (⟨hk, hk.2⟩ : _ ∧ k_ ≠ ab)) (fun _ hk => ⟨hk.1.1.1.1, ⟨hk.1.1.1.2, ⟨hk.1.1.2, hk.1.2⟩⟩⟩))⟩, ⟨(fV aQ.out (fun k_ hk => (⟨hk, hk.2⟩ : _ ∧ k_ ≠ ab)) (fun _ hk => ⟨hk.1.1.1.1, ⟨hk.1.1.1.2, ⟨hk.1.1.2, hk.1.2⟩⟩⟩))⟩, ⟨(fV aR.out (fun k_ hk => (⟨hk, hk.2⟩ : _ ∧ k_ ≠ ab)) (fun _ hk => ⟨hk.1.1.1.1, ⟨hk.1.1.1.2, ⟨hk.1.1.2, hk.1.2⟩⟩⟩))⟩, ⟨(fV aS.out (fun k_ hk => (⟨hk, hk.2⟩ : _ ∧ k_ ≠ ab)) (fun _ hk => ⟨hk.1.1.1.1, ⟨hk.1.1.1.2, ⟨hk.1.1.2, hk.1.2⟩⟩⟩))⟩, ⟨fB bk.out ak.out⟩, ⟨fB bl.out ap.out⟩, ⟨by (with_reducible repeat (first | refine qN ?_ _ | refine qD ?_ | refine qA ?_ _)); refine blk_put (cs := #[.int .i64 ah, .slice am ae.length an, .slice aq af.length ar, .slice none 0 0]) ?_ 3 _ rfl; (with_reducible repeat (first | refine qN ?_ _ | refine qD ?_ | refine qA ?_ _)); refine blk_put (cs := #[.int .i64 ah, .slice am ae.length an, .slice none 0 0, .slice none 0 0]) ?_ 2 _ rfl; (with_reducible repeat (first | refine qN ?_ _ | refine qD ?_ | refine qA ?_ _)); refine blk_put (cs := #[.int .i64 ah, .slice none 0 0, .slice none 0 0, .slice none 0 0]) ?_ 1 _ rfl; (with_reducible repeat (first | refine qN ?_ _ | refine qD ?_ | refine qA ?_ _)); refine blk_put (cs := #[.int .i64 0, .slice none 0 0, .slice none 0 0, .slice none 0 0]) ?_ 0 _ rfl; (with_reducible repeat (first | refine qN ?_ _ | refine qD ?_ | refine qA ?_ _)); exact aw.out⟩, ⟨by repeat (first | (with_reducible first | exact HB.out | apply pA | apply pN | apply pD | refine pS ?_ aM.out | refine pS ?_ aP.out | refine pS ?_ aX.out) | exact HB.out)⟩⟩
  case round =>
   clear H'
   try clear c1
   try clear c2
   try clear p2
   try clear c4
   try clear c8
   try clear c9
   try clear c10
   try clear c11
   try clear c19
   try clear c20
   try clear bT
   try clear bU
   try clear bV
   try clear bW
   try clear b1
   try clear b2
   try clear b3
   try clear b4
   try clear b5
   try clear b6
   try clear b7
   try clear cf
   try clear cg
   try clear ch
   try clear ci
   try clear cn
   try clear co
   try clear cp
   try clear cq
   try clear cw
   try clear cx
   try clear cy
   try clear cz
   try clear cE
   try clear cF
   try clear cG
   try clear cH
   try clear cM
   try clear cN
   try clear cO
   try clear cP
   try clear cQ
   try clear cR
   try clear cS
   try clear bX
   try clear bY
   try clear bZ
   try clear b0
   try clear b8
   try clear b9
   try clear ca
   try clear cb
   try clear cc
   try clear cd
   try clear ce
   try clear cj
   try clear ck
   try clear cl
   try clear cm
   try clear cr
   try clear ct
   try clear cu
   try clear cv
   try clear cA
   try clear cB
   try clear cC
   try clear cD
   try clear cI
   try clear cJ
   try clear cK
   try clear cL
   try clear cT
   try clear cU
   try clear cV
   try clear cW
   try clear cX
   try clear cY
   try clear cZ
   obtain ⟨aa, av, ao, al, aj, u484001, u484002, u484003, rfl, HA, dl, aV, aH, aI, aJ, aC, aD, aK, ax, ay, au, ak, ap, aw, HB⟩ := hrel
   cases gk with
   | zero => exact absurd HA.out (by simp [portreevelaw16_GateRight.l0])
   | succ k1 =>
    have H := HA.out
    clear HA
    simp only [portreevelaw16_GateRight.l0] at H
    by_cases c22 : aa < (aB.length : Int)
    ·rw [if_pos c22] at H
     have di : decide (aa < (aB.length : Int)) = true := decide_eq_true c22
     clear c22
     by_cases c23 : 0 ≤ aa
     ·rw [if_pos c23] at H
      have fi : decide (0 ≤ aa) = true := decide_eq_true c23
      clear c23
      replace H := Option.bind_eq_some_iff.mp H
      obtain ⟨⟨br, bt, bw, bz, bG⟩, c0, H⟩ := H
      replace H : (portreevelaw16_GateRight.l0 k1 bi aB (wrap64 (aa + 1)) ah ae af ai br bt bw bz) = some r := H
      have dm := Aside0.mk c0
      clear c0
      have H' := Aside0.mk H
      clear H
      obtain ⟨fM, c3, dp⟩ := Kd.V_slice aV.out
      subst dp
      obtain ⟨a9, ba, dq⟩ := Kd.V_slice ax.out
      subst dq
      obtain ⟨a7, a8, dr⟩ := Kd.V_slice ay.out
      subst dr
      obtain ⟨aY, aZ, dt⟩ := Kd.V_slice au.out
      subst dt
      try go_wp2
      have n0_ := Aside0.mk (Kd.V_drew aV.out)
      have n1_ := Aside0.mk (Kd.V_drew aH.out)
      have n2_ := Aside0.mk (Kd.V_drew aI.out)
      have n3_ := Aside0.mk (Kd.V_drew aJ.out)
      have n4_ := Aside0.mk (Kd.V_drew aC.out)
      have n5_ := Aside0.mk (Kd.V_drew aD.out)
      have n6_ := Aside0.mk (Kd.V_drew aK.out)
      have n7_ := Aside0.mk (Kd.V_drew ax.out)
      have n8_ := Aside0.mk (Kd.V_drew ay.out)
      have n9_ := Aside0.mk (Kd.V_drew au.out)
      have n10_ := Aside0.mk (qD ak.out)
      have n11_ := Aside0.mk (qD ap.out)
      have n12_ := Aside0.mk (qD aw.out)
      have n13_ := Aside0.mk (pD HB.out)
      clear aV
      clear aH
      clear aI
      clear aJ
      clear aC
      clear aD
      clear aK
      clear ax
      clear ay
      clear au
      clear ak
      clear ap
      clear aw
      clear HB
      have aV := n0_
      have aH := n1_
      have aI := n2_
      have aJ := n3_
      have aC := n4_
      have aD := n5_
      have aK := n6_
      have ax := n7_
      have ay := n8_
      have au := n9_
      have ak := n10_
      have ap := n11_
      have aw := n12_
      have HB := n13_
      clear n0_ n1_ n2_ n3_ n4_ n5_ n6_ n7_ n8_ n9_ n10_ n11_ n12_ n13_
      have p484 : 0 ≤ (aa : Int) := of_decide_eq_true (by first | (with_reducible assumption) | assumption)
      have q484 : aa < (aB.length : Int) := of_decide_eq_true (by first | (with_reducible assumption) | assumption)
      obtain ⟨aL, e484, hx484_0, hx484_1, hx484_2, hx484_3, hx484_4, hx484_5, hx484_6, hx484_7, hx484_8⟩ := at_T41 (Kd.V_reads' aV.out).2.2 aa p484 q484
      cases e484
      replace p484 := eq_true p484
      replace q484 := eq_true q484
      refine start_ (n := 12) (S := fun w' => w'.cell? ⟨ab, 0, none⟩ = some (.int .i64 av) ∧ w'.cell? ⟨ab, 1, none⟩ = some (.slice a9 ao.length ba) ∧ w'.cell? ⟨ab, 2, none⟩ = some (.slice a7 al.length a8) ∧ w'.cell? ⟨ab, 3, none⟩ = some (.slice aY aj.length aZ) ∧ w'.cell? (aL.add ((aa).toNat * 9)) = some (.int .i64 ((rd_T41 aB aa).f0)) ∧ w'.cell? ⟨(aL.add ((aa).toNat * 9)).block, (aL.add ((aa).toNat * 9)).off + 1, none⟩ = some (.int .i64 ((rd_T41 aB aa).f1)) ∧ w'.cell? ⟨(aL.add ((aa).toNat * 9)).block, (aL.add ((aa).toNat * 9)).off + 2, none⟩ = some (.int .i64 ((rd_T41 aB aa).f2)) ∧ w'.cell? ⟨(aL.add ((aa).toNat * 9)).block, (aL.add ((aa).toNat * 9)).off + 3, none⟩ = some (.int .u32 ((rd_T41 aB aa).f3)) ∧ w'.cell? ⟨(aL.add ((aa).toNat * 9)).block, (aL.add ((aa).toNat * 9)).off + 4, none⟩ = some (.string ((rd_T41 aB aa).f4)) ∧ w'.cell? ⟨(aL.add ((aa).toNat * 9)).block, (aL.add ((aa).toNat * 9)).off + 5, none⟩ = some (.int .u64 ((rd_T41 aB aa).f5)) ∧ w'.cell? ⟨(aL.add ((aa).toNat * 9)).block, (aL.add ((aa).toNat * 9)).off + 6, none⟩ = some (.int .u64 ((rd_T41 aB aa).f6)) ∧ w'.cell? ⟨(aL.add ((aa).toNat * 9)).block, (aL.add ((aa).toNat * 9)).off + 7, none⟩ = some (.int .i64 ((rd_T41 aB aa).f7)) ∧ w'.cell? ⟨(aL.add ((aa).toNat * 9)).block, (aL.add ((aa).toNat * 9)).off + 8, none⟩ = some (.int .i64 ((rd_T41 aB aa).f8))) (ds := []) #[false, false, false, false, false, false, false, false, false, false, false, false] (by kernel_rfl) rfl rfl ⟨(blk_cell aw.out 0).trans rfl, (blk_cell aw.out 1).trans rfl, (blk_cell aw.out 2).trans rfl, (blk_cell aw.out 3).trans rfl, hx484_0, hx484_1, hx484_2, hx484_3, hx484_4, hx484_5, hx484_6, hx484_7, hx484_8⟩ (fun hHeld => ?_); refine with_tabW portreevelaw16_GateRight.tab13 portreevelaw16_GateRight.bits13 (fun HT_ HW_ => ?_)
      generalize wr.drew = w29 at aV aH aI aJ aC aD aK ax ay au ak ap aw HB hx484_0 hx484_1 hx484_2 hx484_3 hx484_4 hx484_5 hx484_6 hx484_7 hx484_8 hHeld ⊢
      refine pure_ (i := 1) (N := some 47) (v := ?_) (a' := ?_) #[false, true, false, false, false, false, false, false, false, false, false, false] rfl rfl (any_of HT_.out (by kernel_rfl)) (fun _ _ _ h => h) (Or.inl ⟨by rfl, ?_⟩) ?_ ?_
      rotate_left
      ·intro w'
       go_simp
       with_reducible rfl
      rotate_left
      ·simp only [Act.put, sT, s0, s1, i64_w, i32_w]
       rfl
      refine pure_ (i := 2) (N := some 48) (v := ?_) (a' := ?_) #[false, true, true, false, false, false, false, false, false, false, false, false] rfl rfl (any_of HT_.out (by kernel_rfl)) (fun _ _ _ h => h) (Or.inl ⟨by rfl, ?_⟩) ?_ ?_
      rotate_left
      ·intro w'
       go_simp
       with_reducible rfl
      rotate_left
      ·simp only [Act.put, sT, s0, s1, i64_w, i32_w]
       rfl
      refine pure_ (i := 3) (N := some 49) (v := ?_) (a' := ?_) #[false, true, true, true, false, false, false, false, false, false, false, false] rfl rfl (any_of HT_.out (by kernel_rfl)) (fun _ _ _ h => h) (Or.inl ⟨by rfl, ?_⟩) ?_ ?_
      rotate_left
      ·intro w'
       go_simp
       with_reducible rfl
      rotate_left
      ·simp only [Act.put, sT, s0, s1, i64_w, i32_w]
       rfl
      refine take_ (i := 0) (N := some 46) (v := ?_) (a' := ?_) #[true, true, true, true, false, false, false, false, false, false, false, false] rfl rfl (take_ofW HT_.out HW_.out (by kernel_rfl)) (fun _ _ _ h => h) (Or.inl ⟨by rfl, ?_⟩) hHeld ?_ ?_
      rotate_left
      ·rintro w' ⟨s0, s1, s2, s3, s4, s5, s6, s7, s8, s9, s10, s11, s12⟩
       go_simp
       with_reducible rfl
      rotate_left
      ·simp only [Act.put, sT, s0, s1, i64_w, i32_w]
       rfl
      refine take_ (i := 4) (N := some 50) (v := ?_) (a' := ?_) #[true, true, true, true, true, false, false, false, false, false, false, false] rfl rfl (take_ofW HT_.out HW_.out (by kernel_rfl)) (fun _ _ _ h => h) (Or.inl ⟨by rfl, ?_⟩) hHeld ?_ ?_
      rotate_left
      ·rintro w' ⟨s0, s1, s2, s3, s4, s5, s6, s7, s8, s9, s10, s11, s12⟩
       go_simp
       with_reducible rfl
      rotate_left
      ·simp only [Act.put, sT, s0, s1, i64_w, i32_w]
       rfl
      refine join_ (σ := Value × Value × Value × Nat) 2 #[true, true, true, true, true, true, true, true, true, true, false, false] (fun s_ => [(51, .tuple #[.agg #[.int .i64 br, s_.1, s_.2.1, s_.2.2.1], .int .i64 bG]), (12, .pointer (some ⟨s_.2.2.2, 0, none⟩)), (45, .tuple #[.agg #[.int .i64 br, s_.1, s_.2.1, s_.2.2.1], .int .i64 bG]), (52, .agg #[.int .i64 br, s_.1, s_.2.1, s_.2.2.1]), (53, .int .i64 bG)]) (fun s_ w' => (w'.cell? ⟨ab, 0, none⟩ = some (.int .i64 av) ∧ w'.cell? ⟨ab, 1, none⟩ = some (.slice a9 ao.length ba) ∧ w'.cell? ⟨ab, 2, none⟩ = some (.slice a7 al.length a8) ∧ w'.cell? ⟨ab, 3, none⟩ = some (.slice aY aj.length aZ) ∧ w'.cell? (aL.add ((aa).toNat * 9)) = some (.int .i64 ((rd_T41 aB aa).f0)) ∧ w'.cell? ⟨(aL.add ((aa).toNat * 9)).block, (aL.add ((aa).toNat * 9)).off + 1, none⟩ = some (.int .i64 ((rd_T41 aB aa).f1)) ∧ w'.cell? ⟨(aL.add ((aa).toNat * 9)).block, (aL.add ((aa).toNat * 9)).off + 2, none⟩ = some (.int .i64 ((rd_T41 aB aa).f2)) ∧ w'.cell? ⟨(aL.add ((aa).toNat * 9)).block, (aL.add ((aa).toNat * 9)).off + 3, none⟩ = some (.int .u32 ((rd_T41 aB aa).f3)) ∧ w'.cell? ⟨(aL.add ((aa).toNat * 9)).block, (aL.add ((aa).toNat * 9)).off + 4, none⟩ = some (.string ((rd_T41 aB aa).f4)) ∧ w'.cell? ⟨(aL.add ((aa).toNat * 9)).block, (aL.add ((aa).toNat * 9)).off + 5, none⟩ = some (.int .u64 ((rd_T41 aB aa).f5)) ∧ w'.cell? ⟨(aL.add ((aa).toNat * 9)).block, (aL.add ((aa).toNat * 9)).off + 6, none⟩ = some (.int .u64 ((rd_T41 aB aa).f6)) ∧ w'.cell? ⟨(aL.add ((aa).toNat * 9)).block, (aL.add ((aa).toNat * 9)).off + 7, none⟩ = some (.int .i64 ((rd_T41 aB aa).f7)) ∧ w'.cell? ⟨(aL.add ((aa).toNat * 9)).block, (aL.add ((aa).toNat * 9)).off + 8, none⟩ = some (.int .i64 ((rd_T41 aB aa).f8))) ∧ (Kd.V k76 76 w' w.heap.size (fun k_ => ((aE k_ ∨ aF k_ ∨ aG k_) ∨ w.heap.size ≤ k_) ∧ k_ ≠ ac ∧ k_ ≠ ad ∧ k_ ≠ ab ∧ k_ ≠ s_.2.2.2) s_.1 bt) ∧ (Kd.V k72 72 w' w.heap.size (fun k_ => ((aE k_ ∨ aF k_ ∨ aG k_) ∨ w.heap.size ≤ k_) ∧ k_ ≠ ac ∧ k_ ≠ ad ∧ k_ ≠ ab ∧ k_ ≠ s_.2.2.2) s_.2.1 bw) ∧ (Kd.V k64 64 w' w.heap.size (fun k_ => ((aE k_ ∨ aF k_ ∨ aG k_) ∨ w.heap.size ≤ k_) ∧ k_ ≠ ac ∧ k_ ≠ ad ∧ k_ ≠ ab ∧ k_ ≠ s_.2.2.2) s_.2.2.1 bz) ∧ (Kd.V k76 76 w' w.heap.size (fun k_ => ((aE k_ ∨ aF k_ ∨ aG k_) ∨ w.heap.size ≤ k_) ∧ k_ ≠ ac ∧ k_ ≠ ad ∧ k_ ≠ ab ∧ k_ ≠ s_.2.2.2) (.slice am ae.length an) ae) ∧ (Kd.V k72 72 w' w.heap.size (fun k_ => ((aE k_ ∨ aF k_ ∨ aG k_) ∨ w.heap.size ≤ k_) ∧ k_ ≠ ac ∧ k_ ≠ ad ∧ k_ ≠ ab ∧ k_ ≠ s_.2.2.2) (.slice aq af.length ar) af) ∧ (Kd.V k64 64 w' w.heap.size (fun k_ => ((aE k_ ∨ aF k_ ∨ aG k_) ∨ w.heap.size ≤ k_) ∧ k_ ≠ ac ∧ k_ ≠ ad ∧ k_ ≠ ab ∧ k_ ≠ s_.2.2.2) (.slice az ai.length aA) ai) ∧ (Kd.V k76 76 w' w.heap.size (fun k_ => ((aE k_ ∨ aF k_ ∨ aG k_) ∨ w.heap.size ≤ k_) ∧ k_ ≠ ac ∧ k_ ≠ ad ∧ k_ ≠ ab ∧ k_ ≠ s_.2.2.2) (.slice am ae.length an) ae) ∧ (Kd.V k72 72 w' w.heap.size (fun k_ => ((aE k_ ∨ aF k_ ∨ aG k_) ∨ w.heap.size ≤ k_) ∧ k_ ≠ ac ∧ k_ ≠ ad ∧ k_ ≠ ab ∧ k_ ≠ s_.2.2.2) (.slice aq af.length ar) af) ∧ (Kd.V k64 64 w' w.heap.size (fun k_ => ((aE k_ ∨ aF k_ ∨ aG k_) ∨ w.heap.size ≤ k_) ∧ k_ ≠ ac ∧ k_ ≠ ad ∧ k_ ≠ ab ∧ k_ ≠ s_.2.2.2) (.slice az ai.length aA) ai) ∧ (Kd.V k76 76 w' w.heap.size (fun k_ => ((aE k_ ∨ aF k_ ∨ aG k_) ∨ w.heap.size ≤ k_) ∧ k_ ≠ ac ∧ k_ ≠ ad ∧ k_ ≠ ab ∧ k_ ≠ s_.2.2.2) (.slice a9 ao.length ba) ao) ∧ (Kd.V k72 72 w' w.heap.size (fun k_ => ((aE k_ ∨ aF k_ ∨ aG k_) ∨ w.heap.size ≤ k_) ∧ k_ ≠ ac ∧ k_ ≠ ad ∧ k_ ≠ ab ∧ k_ ≠ s_.2.2.2) (.slice a7 al.length a8) al) ∧ (Kd.V k64 64 w' w.heap.size (fun k_ => ((aE k_ ∨ aF k_ ∨ aG k_) ∨ w.heap.size ≤ k_) ∧ k_ ≠ ac ∧ k_ ≠ ad ∧ k_ ≠ ab ∧ k_ ≠ s_.2.2.2) (.slice aY aj.length aZ) aj) ∧ (Kd.V k41 41 w' w.heap.size (fun k_ => ((aE k_ ∨ aF k_ ∨ aG k_) ∨ w.heap.size ≤ k_) ∧ k_ ≠ ac ∧ k_ ≠ ad ∧ k_ ≠ ab ∧ k_ ≠ s_.2.2.2) (.slice (some aL) aB.length c3) aB) ∧ (w'.heap[ac]? = some (.cells #[.int .i64 ah, .slice am ae.length an, .slice aq af.length ar, .slice az ai.length aA, .string aN, .bool aT, .int .i64 aO] 59 (0, 0))) ∧ (w'.heap[ad]? = some (.cells #[.int .i64 ah, .slice am ae.length an, .slice aq af.length ar, .slice az ai.length aA] 26 (0, 0))) ∧ (w'.heap[ab]? = some (.cells #[.int .i64 av, .slice a9 ao.length ba, .slice a7 al.length a8, .slice aY aj.length aZ] 26 (0, 0))) ∧ (w'.heap[s_.2.2.2]? = some (.cells #[.int .i64 0, .slice none 0 0, .slice none 0 0, .slice none 0 0] 26 (0, 0))) ∧ (w.heap.size ≤ s_.2.2.2) ∧ (w.heap.size ≤ s_.2.2.2) ∧ (ac ≠ s_.2.2.2) ∧ (s_.2.2.2 ≠ ac) ∧ (ad ≠ s_.2.2.2) ∧ (s_.2.2.2 ≠ ad) ∧ (ab ≠ s_.2.2.2) ∧ (s_.2.2.2 ≠ ab) ∧ (Below w.heap.size w w')) ?_ ?_
      rotate_left
      ·intro hCont
       refine two_ (i := 5) (j := 9) (Ni := some 51) (Nj := some 12) #[true, true, true, true, true, true, false, false, false, false, false, false] #[true, true, true, true, true, false, false, false, false, true, false, false] rfl rfl rfl rfl (two_of HT_.out (by kernel_rfl)) (by decide) (by decide) (fun K hK => ?_) (fun K hK => ?_)
       ·skip
        refine goes_ Try.func14 (by kernel_rfl) rfl #[.agg #[.int .i64 av, .slice a9 ao.length ba, .slice a7 al.length a8, .slice aY aj.length aZ], .agg #[.int .i64 ((rd_T41 aB aa).f0), .int .i64 ((rd_T41 aB aa).f1), .int .i64 ((rd_T41 aB aa).f2), .int .u32 ((rd_T41 aB aa).f3), .string ((rd_T41 aB aa).f4), .int .u64 ((rd_T41 aB aa).f5), .int .u64 ((rd_T41 aB aa).f6), .int .i64 ((rd_T41 aB aa).f7), .int .i64 ((rd_T41 aB aa).f8)]] (by rfl) rfl rfl (by (try simp only [List.map_toArray, List.map_cons, List.map_nil]); first | done | rfl | (simp only [List.length_drop, List.length_take]; rfl)) ?_
        with_reducible refine (portreeveref04_Apply.calls k1 av (fun k_ => (((aE k_ ∨ aF k_ ∨ aG k_) ∨ w.heap.size ≤ k_) ∧ (k_ ≠ ac ∧ (k_ ≠ ad ∧ k_ ≠ ab)))) _ _ ao (fun k_ => (((aE k_ ∨ aF k_ ∨ aG k_) ∨ w.heap.size ≤ k_) ∧ (k_ ≠ ac ∧ (k_ ≠ ad ∧ k_ ≠ ab)))) _ _ al (fun k_ => (((aE k_ ∨ aF k_ ∨ aG k_) ∨ w.heap.size ≤ k_) ∧ (k_ ≠ ac ∧ (k_ ≠ ad ∧ k_ ≠ ab)))) _ _ aj ((rd_T41 aB aa).f0) ((rd_T41 aB aa).f1) ((rd_T41 aB aa).f2) ((rd_T41 aB aa).f3) ((rd_T41 aB aa).f4) ((rd_T41 aB aa).f5) ((rd_T41 aB aa).f6) ((rd_T41 aB aa).f7) ((rd_T41 aB aa).f8) br bt bw bz bG _ ?side1 ?side2 ?side3 dm.out).mono ?_
        (case side1 => exact ax.out)
        (case side2 => exact ay.out)
        (case side3 => exact au.out)
        rintro e w30 ⟨v487, v490, v493, rfl, ho0, ho1, ho2, hb⟩
        have HS4_ := (hb.cell (World.block_lt_of_cell? _ _ (hHeld.2.2.2.2.1))).trans (hHeld.2.2.2.2.1)
        have HS5_ := (hb.cell (World.block_lt_of_cell? _ _ (hHeld.2.2.2.2.2.1))).trans (hHeld.2.2.2.2.2.1)
        have HS6_ := (hb.cell (World.block_lt_of_cell? _ _ (hHeld.2.2.2.2.2.2.1))).trans (hHeld.2.2.2.2.2.2.1)
        have HS7_ := (hb.cell (World.block_lt_of_cell? _ _ (hHeld.2.2.2.2.2.2.2.1))).trans (hHeld.2.2.2.2.2.2.2.1)
        have HS8_ := (hb.cell (World.block_lt_of_cell? _ _ (hHeld.2.2.2.2.2.2.2.2.1))).trans (hHeld.2.2.2.2.2.2.2.2.1)
        have HS9_ := (hb.cell (World.block_lt_of_cell? _ _ (hHeld.2.2.2.2.2.2.2.2.2.1))).trans (hHeld.2.2.2.2.2.2.2.2.2.1)
        have HS10_ := (hb.cell (World.block_lt_of_cell? _ _ (hHeld.2.2.2.2.2.2.2.2.2.2.1))).trans (hHeld.2.2.2.2.2.2.2.2.2.2.1)
        have HS11_ := (hb.cell (World.block_lt_of_cell? _ _ (hHeld.2.2.2.2.2.2.2.2.2.2.2.1))).trans (hHeld.2.2.2.2.2.2.2.2.2.2.2.1)
        have HS12_ := (hb.cell (World.block_lt_of_cell? _ _ (hHeld.2.2.2.2.2.2.2.2.2.2.2.2))).trans (hHeld.2.2.2.2.2.2.2.2.2.2.2.2)
        refine ⟨_, rfl, ?_⟩
        have n0_ := Aside0.mk (Kd.V_below (zV aV.out) hb)
        have n1_ := Aside0.mk (Kd.V_below (zV aH.out) hb)
        have n2_ := Aside0.mk (Kd.V_below (zV aI.out) hb)
        have n3_ := Aside0.mk (Kd.V_below (zV aJ.out) hb)
        have n4_ := Aside0.mk (Kd.V_below (zV aC.out) hb)
        have n5_ := Aside0.mk (Kd.V_below (zV aD.out) hb)
        have n6_ := Aside0.mk (Kd.V_below (zV aK.out) hb)
        have n7_ := Aside0.mk (Kd.V_below (zV ax.out) hb)
        have n8_ := Aside0.mk (Kd.V_below (zV ay.out) hb)
        have n9_ := Aside0.mk (Kd.V_below (zV au.out) hb)
        have n10_ := Aside0.mk (Kd.V_lower (Kd.V_mono (ok' := fun k_ => ((aE k_ ∨ aF k_ ∨ aG k_) ∨ w.heap.size ≤ k_) ∧ k_ ≠ ac ∧ k_ ≠ ad ∧ k_ ≠ ab) ho0 (fun k_ hk_ => ⟨Or.elim hk_ (fun hs_ => Or.elim hs_ (fun hs_ => hs_.1) (fun hs_ => Or.elim hs_ (fun hs_ => hs_.1) (fun hs_ => hs_.1))) (fun hn_ => (.inr (Nat.le_trans (below_size (by repeat (first | (with_reducible first | exact HB.out | apply pA | apply pN | apply pD | refine pS ?_ aM.out | refine pS ?_ aP.out | refine pS ?_ aX.out) | exact HB.out))) hn_))), Or.elim hk_ (fun hs_ => Or.elim hs_ (fun hs_ => hs_.2.1) (fun hs_ => Or.elim hs_ (fun hs_ => hs_.2.1) (fun hs_ => hs_.2.1))) (fun hn_ => (Kd.freshB (g := ac) (o := .cells #[.int .i64 ah, .slice am ae.length an, .slice aq af.length ar, .slice az ai.length aA, .string aN, .bool aT, .int .i64 aO] 59 (0, 0)) (zB ak.out) k_ hn_)), Or.elim hk_ (fun hs_ => Or.elim hs_ (fun hs_ => hs_.2.2.1) (fun hs_ => Or.elim hs_ (fun hs_ => hs_.2.2.1) (fun hs_ => hs_.2.2.1))) (fun hn_ => (Kd.freshB (g := ad) (o := .cells #[.int .i64 ah, .slice am ae.length an, .slice aq af.length ar, .slice az ai.length aA] 26 (0, 0)) (zB ap.out) k_ hn_)), Or.elim hk_ (fun hs_ => Or.elim hs_ (fun hs_ => hs_.2.2.2) (fun hs_ => Or.elim hs_ (fun hs_ => hs_.2.2.2) (fun hs_ => hs_.2.2.2))) (fun hn_ => (Kd.freshB (g := ab) (o := .cells #[.int .i64 av, .slice a9 ao.length ba, .slice a7 al.length a8, .slice aY aj.length aZ] 26 (0, 0)) (zB aw.out) k_ hn_))⟩)) (below_size (by repeat (first | (with_reducible first | exact HB.out | apply pA | apply pN | apply pD | refine pS ?_ aM.out | refine pS ?_ aP.out | refine pS ?_ aX.out) | exact HB.out))))
        have n11_ := Aside0.mk (Kd.V_lower (Kd.V_mono (ok' := fun k_ => ((aE k_ ∨ aF k_ ∨ aG k_) ∨ w.heap.size ≤ k_) ∧ k_ ≠ ac ∧ k_ ≠ ad ∧ k_ ≠ ab) ho1 (fun k_ hk_ => ⟨Or.elim hk_ (fun hs_ => Or.elim hs_ (fun hs_ => hs_.1) (fun hs_ => Or.elim hs_ (fun hs_ => hs_.1) (fun hs_ => hs_.1))) (fun hn_ => (.inr (Nat.le_trans (below_size (by repeat (first | (with_reducible first | exact HB.out | apply pA | apply pN | apply pD | refine pS ?_ aM.out | refine pS ?_ aP.out | refine pS ?_ aX.out) | exact HB.out))) hn_))), Or.elim hk_ (fun hs_ => Or.elim hs_ (fun hs_ => hs_.2.1) (fun hs_ => Or.elim hs_ (fun hs_ => hs_.2.1) (fun hs_ => hs_.2.1))) (fun hn_ => (Kd.freshB (g := ac) (o := .cells #[.int .i64 ah, .slice am ae.length an, .slice aq af.length ar, .slice az ai.length aA, .string aN, .bool aT, .int .i64 aO] 59 (0, 0)) (zB ak.out) k_ hn_)), Or.elim hk_ (fun hs_ => Or.elim hs_ (fun hs_ => hs_.2.2.1) (fun hs_ => Or.elim hs_ (fun hs_ => hs_.2.2.1) (fun hs_ => hs_.2.2.1))) (fun hn_ => (Kd.freshB (g := ad) (o := .cells #[.int .i64 ah, .slice am ae.length an, .slice aq af.length ar, .slice az ai.length aA] 26 (0, 0)) (zB ap.out) k_ hn_)), Or.elim hk_ (fun hs_ => Or.elim hs_ (fun hs_ => hs_.2.2.2) (fun hs_ => Or.elim hs_ (fun hs_ => hs_.2.2.2) (fun hs_ => hs_.2.2.2))) (fun hn_ => (Kd.freshB (g := ab) (o := .cells #[.int .i64 av, .slice a9 ao.length ba, .slice a7 al.length a8, .slice aY aj.length aZ] 26 (0, 0)) (zB aw.out) k_ hn_))⟩)) (below_size (by repeat (first | (with_reducible first | exact HB.out | apply pA | apply pN | apply pD | refine pS ?_ aM.out | refine pS ?_ aP.out | refine pS ?_ aX.out) | exact HB.out))))
        have n12_ := Aside0.mk (Kd.V_lower (Kd.V_mono (ok' := fun k_ => ((aE k_ ∨ aF k_ ∨ aG k_) ∨ w.heap.size ≤ k_) ∧ k_ ≠ ac ∧ k_ ≠ ad ∧ k_ ≠ ab) ho2 (fun k_ hk_ => ⟨Or.elim hk_ (fun hs_ => Or.elim hs_ (fun hs_ => hs_.1) (fun hs_ => Or.elim hs_ (fun hs_ => hs_.1) (fun hs_ => hs_.1))) (fun hn_ => (.inr (Nat.le_trans (below_size (by repeat (first | (with_reducible first | exact HB.out | apply pA | apply pN | apply pD | refine pS ?_ aM.out | refine pS ?_ aP.out | refine pS ?_ aX.out) | exact HB.out))) hn_))), Or.elim hk_ (fun hs_ => Or.elim hs_ (fun hs_ => hs_.2.1) (fun hs_ => Or.elim hs_ (fun hs_ => hs_.2.1) (fun hs_ => hs_.2.1))) (fun hn_ => (Kd.freshB (g := ac) (o := .cells #[.int .i64 ah, .slice am ae.length an, .slice aq af.length ar, .slice az ai.length aA, .string aN, .bool aT, .int .i64 aO] 59 (0, 0)) (zB ak.out) k_ hn_)), Or.elim hk_ (fun hs_ => Or.elim hs_ (fun hs_ => hs_.2.2.1) (fun hs_ => Or.elim hs_ (fun hs_ => hs_.2.2.1) (fun hs_ => hs_.2.2.1))) (fun hn_ => (Kd.freshB (g := ad) (o := .cells #[.int .i64 ah, .slice am ae.length an, .slice aq af.length ar, .slice az ai.length aA] 26 (0, 0)) (zB ap.out) k_ hn_)), Or.elim hk_ (fun hs_ => Or.elim hs_ (fun hs_ => hs_.2.2.2) (fun hs_ => Or.elim hs_ (fun hs_ => hs_.2.2.2) (fun hs_ => hs_.2.2.2))) (fun hn_ => (Kd.freshB (g := ab) (o := .cells #[.int .i64 av, .slice a9 ao.length ba, .slice a7 al.length a8, .slice aY aj.length aZ] 26 (0, 0)) (zB aw.out) k_ hn_))⟩)) (below_size (by repeat (first | (with_reducible first | exact HB.out | apply pA | apply pN | apply pD | refine pS ?_ aM.out | refine pS ?_ aP.out | refine pS ?_ aX.out) | exact HB.out))))
        have n13_ := Aside0.mk (blk_below (g := ac) (o := .cells #[.int .i64 ah, .slice am ae.length an, .slice aq af.length ar, .slice az ai.length aA, .string aN, .bool aT, .int .i64 aO] 59 (0, 0)) (zB ak.out) hb)
        have n14_ := Aside0.mk (blk_below (g := ad) (o := .cells #[.int .i64 ah, .slice am ae.length an, .slice aq af.length ar, .slice az ai.length aA] 26 (0, 0)) (zB ap.out) hb)
        have n15_ := Aside0.mk (blk_below (g := ab) (o := .cells #[.int .i64 av, .slice a9 ao.length ba, .slice a7 al.length a8, .slice aY aj.length aZ] 26 (0, 0)) (zB aw.out) hb)
        have n16_ := Aside0.mk (below_step (by repeat (first | (with_reducible first | exact HB.out | apply pA | apply pN | apply pD | refine pS ?_ aM.out | refine pS ?_ aP.out | refine pS ?_ aX.out) | exact HB.out)) hb)
        clear aV
        clear aH
        clear aI
        clear aJ
        clear aC
        clear aD
        clear aK
        clear ax
        clear ay
        clear au
        clear ak
        clear ap
        clear aw
        clear HB
        have aV := n0_
        have aH := n1_
        have aI := n2_
        have aJ := n3_
        have aC := n4_
        have aD := n5_
        have aK := n6_
        have ax := n7_
        have ay := n8_
        have au := n9_
        have bm := n10_
        have bn := n11_
        have bo := n12_
        have ak := n13_
        have ap := n14_
        have aw := n15_
        have HB := n16_
        clear n0_ n1_ n2_ n3_ n4_ n5_ n6_ n7_ n8_ n9_ n10_ n11_ n12_ n13_ n14_ n15_ n16_
        (try clear hb)
        (try clear hb2)
        (try clear hk)
        (try clear hi)
        (try clear ho0)
        (try clear ho1)
        (try clear ho2)
        refine hK.out _ _ ⟨(blk_cell aw.out 0).trans rfl, (blk_cell aw.out 1).trans rfl, (blk_cell aw.out 2).trans rfl, (blk_cell aw.out 3).trans rfl, HS4_, HS5_, HS6_, HS7_, HS8_, HS9_, HS10_, HS11_, HS12_⟩ (fun hHeld => ?_)
        clear hK K
        refine norm_ (a' := ?_) ?_ ?_
        rotate_left
        ·show Act.put _ (some 51) _ = _
         simp only [Act.put, sT, s0, s1, i64_w, i32_w]
         rfl
        refine pure_ (i := 6) (N := some 45) (v := ?_) (a' := ?_) #[true, true, true, true, true, true, true, false, false, false, false, false] rfl rfl (any_of HT_.out (by kernel_rfl)) (fun _ _ _ h => h) (Or.inl ⟨by rfl, ?_⟩) ?_ ?_
        rotate_left
        ·intro w'
         go_simp
         with_reducible rfl
        rotate_left
        ·simp only [Act.put, sT, s0, s1, i64_w, i32_w]
         rfl
        refine pure_ (i := 7) (N := some 52) (v := ?_) (a' := ?_) #[true, true, true, true, true, true, true, true, false, false, false, false] rfl rfl (any_of HT_.out (by kernel_rfl)) (fun _ _ _ h => h) (Or.inl ⟨by rfl, ?_⟩) ?_ ?_
        rotate_left
        ·intro w'
         go_simp
         with_reducible rfl
        rotate_left
        ·simp only [Act.put, sT, s0, s1, i64_w, i32_w]
         rfl
        refine pure_ (i := 8) (N := some 53) (v := ?_) (a' := ?_) #[true, true, true, true, true, true, true, true, true, false, false, false] rfl rfl (any_of HT_.out (by kernel_rfl)) (fun _ _ _ h => h) (Or.inl ⟨by rfl, ?_⟩) ?_ ?_
        rotate_left
        ·intro w'
         go_simp
         with_reducible rfl
        rotate_left
        ·simp only [Act.put, sT, s0, s1, i64_w, i32_w]
         rfl
        refine one_ (i := 9) (N := some 12) #[true, true, true, true, true, true, true, true, true, true, false, false] rfl rfl (one_of HT_.out (by kernel_rfl)) (by decide) (fun K hK => ?_)
        refine box_step ?hg (N := 12) ?hd (cs := #[.int .i64 0, .slice none 0 0, .slice none 0 0, .slice none 0 0]) (t := 26) ?hr ?_; (case hd => rfl); (case hg => rfl); (case hr => first | (go_simp; done) | (go_simp; rfl))
        intro ag hg w31 hbox hb
        have HS4_ := (hb.cell (World.block_lt_of_cell? _ _ (hHeld.2.2.2.2.1))).trans (hHeld.2.2.2.2.1)
        have HS5_ := (hb.cell (World.block_lt_of_cell? _ _ (hHeld.2.2.2.2.2.1))).trans (hHeld.2.2.2.2.2.1)
        have HS6_ := (hb.cell (World.block_lt_of_cell? _ _ (hHeld.2.2.2.2.2.2.1))).trans (hHeld.2.2.2.2.2.2.1)
        have HS7_ := (hb.cell (World.block_lt_of_cell? _ _ (hHeld.2.2.2.2.2.2.2.1))).trans (hHeld.2.2.2.2.2.2.2.1)
        have HS8_ := (hb.cell (World.block_lt_of_cell? _ _ (hHeld.2.2.2.2.2.2.2.2.1))).trans (hHeld.2.2.2.2.2.2.2.2.1)
        have HS9_ := (hb.cell (World.block_lt_of_cell? _ _ (hHeld.2.2.2.2.2.2.2.2.2.1))).trans (hHeld.2.2.2.2.2.2.2.2.2.1)
        have HS10_ := (hb.cell (World.block_lt_of_cell? _ _ (hHeld.2.2.2.2.2.2.2.2.2.2.1))).trans (hHeld.2.2.2.2.2.2.2.2.2.2.1)
        have HS11_ := (hb.cell (World.block_lt_of_cell? _ _ (hHeld.2.2.2.2.2.2.2.2.2.2.2.1))).trans (hHeld.2.2.2.2.2.2.2.2.2.2.2.1)
        have HS12_ := (hb.cell (World.block_lt_of_cell? _ _ (hHeld.2.2.2.2.2.2.2.2.2.2.2.2))).trans (hHeld.2.2.2.2.2.2.2.2.2.2.2.2)
        have n0_ := Aside0.mk (Kd.V_below (Kd.V_elderB (zV aV.out) ag (Nat.le_of_eq hg.symm)) hb)
        have n1_ := Aside0.mk (Kd.V_below (Kd.V_elderB (zV aH.out) ag (Nat.le_of_eq hg.symm)) hb)
        have n2_ := Aside0.mk (Kd.V_below (Kd.V_elderB (zV aI.out) ag (Nat.le_of_eq hg.symm)) hb)
        have n3_ := Aside0.mk (Kd.V_below (Kd.V_elderB (zV aJ.out) ag (Nat.le_of_eq hg.symm)) hb)
        have n4_ := Aside0.mk (Kd.V_below (Kd.V_elderB (zV aC.out) ag (Nat.le_of_eq hg.symm)) hb)
        have n5_ := Aside0.mk (Kd.V_below (Kd.V_elderB (zV aD.out) ag (Nat.le_of_eq hg.symm)) hb)
        have n6_ := Aside0.mk (Kd.V_below (Kd.V_elderB (zV aK.out) ag (Nat.le_of_eq hg.symm)) hb)
        have n7_ := Aside0.mk (Kd.V_below (Kd.V_elderB (zV ax.out) ag (Nat.le_of_eq hg.symm)) hb)
        have n8_ := Aside0.mk (Kd.V_below (Kd.V_elderB (zV ay.out) ag (Nat.le_of_eq hg.symm)) hb)
        have n9_ := Aside0.mk (Kd.V_below (Kd.V_elderB (zV au.out) ag (Nat.le_of_eq hg.symm)) hb)
        have n10_ := Aside0.mk (Kd.V_below (Kd.V_elderB (zV bm.out) ag (Nat.le_of_eq hg.symm)) hb)
        have n11_ := Aside0.mk (Kd.V_below (Kd.V_elderB (zV bn.out) ag (Nat.le_of_eq hg.symm)) hb)
        have n12_ := Aside0.mk (Kd.V_below (Kd.V_elderB (zV bo.out) ag (Nat.le_of_eq hg.symm)) hb)
        have n13_ := Aside0.mk (blk_below (g := ac) (o := .cells #[.int .i64 ah, .slice am ae.length an, .slice aq af.length ar, .slice az ai.length aA, .string aN, .bool aT, .int .i64 aO] 59 (0, 0)) (zB ak.out) hb)
        have n14_ := Aside0.mk (blk_below (g := ad) (o := .cells #[.int .i64 ah, .slice am ae.length an, .slice aq af.length ar, .slice az ai.length aA] 26 (0, 0)) (zB ap.out) hb)
        have n15_ := Aside0.mk (blk_below (g := ab) (o := .cells #[.int .i64 av, .slice a9 ao.length ba, .slice a7 al.length a8, .slice aY aj.length aZ] 26 (0, 0)) (zB aw.out) hb)
        have n16_ := Aside0.mk (below_step (by repeat (first | (with_reducible first | exact HB.out | apply pA | apply pN | apply pD | refine pS ?_ aM.out | refine pS ?_ aP.out | refine pS ?_ aX.out) | exact HB.out)) hb)
        have n17_ := Aside0.mk (hbox)
        have n18_ := Aside0.mk ((by rw [hg]; exact (below_size (by repeat (first | (with_reducible first | exact HB.out | apply pA | apply pN | apply pD | refine pS ?_ aM.out | refine pS ?_ aP.out | refine pS ?_ aX.out) | exact HB.out))) : w.heap.size ≤ ag))
        have n19_ := Aside0.mk ((by rw [hg]; exact (below_size (by repeat (first | (with_reducible first | exact HB.out | apply pA | apply pN | apply pD | refine pS ?_ aM.out | refine pS ?_ aP.out | refine pS ?_ aX.out) | exact HB.out))) : w.heap.size ≤ ag))
        have n20_ := Aside0.mk ((by rw [hg]; exact Nat.ne_of_lt (blk_lt (g := ac) (o := .cells #[.int .i64 ah, .slice am ae.length an, .slice aq af.length ar, .slice az ai.length aA, .string aN, .bool aT, .int .i64 aO] 59 (0, 0)) (zB ak.out)) : ac ≠ ag))
        have n21_ := Aside0.mk ((by rw [hg]; exact Nat.ne_of_gt (blk_lt (g := ac) (o := .cells #[.int .i64 ah, .slice am ae.length an, .slice aq af.length ar, .slice az ai.length aA, .string aN, .bool aT, .int .i64 aO] 59 (0, 0)) (zB ak.out)) : ag ≠ ac))
        have n22_ := Aside0.mk ((by rw [hg]; exact Nat.ne_of_lt (blk_lt (g := ad) (o := .cells #[.int .i64 ah, .slice am ae.length an, .slice aq af.length ar, .slice az ai.length aA] 26 (0, 0)) (zB ap.out)) : ad ≠ ag))
        have n23_ := Aside0.mk ((by rw [hg]; exact Nat.ne_of_gt (blk_lt (g := ad) (o := .cells #[.int .i64 ah, .slice am ae.length an, .slice aq af.length ar, .slice az ai.length aA] 26 (0, 0)) (zB ap.out)) : ag ≠ ad))
        have n24_ := Aside0.mk ((by rw [hg]; exact Nat.ne_of_lt (blk_lt (g := ab) (o := .cells #[.int .i64 av, .slice a9 ao.length ba, .slice a7 al.length a8, .slice aY aj.length aZ] 26 (0, 0)) (zB aw.out)) : ab ≠ ag))
        have n25_ := Aside0.mk ((by rw [hg]; exact Nat.ne_of_gt (blk_lt (g := ab) (o := .cells #[.int .i64 av, .slice a9 ao.length ba, .slice a7 al.length a8, .slice aY aj.length aZ] 26 (0, 0)) (zB aw.out)) : ag ≠ ab))
        clear aV
        clear aH
        clear aI
        clear aJ
        clear aC
        clear aD
        clear aK
        clear ax
        clear ay
        clear au
        clear bm
        clear bn
        clear bo
        clear ak
        clear ap
        clear aw
        clear HB
        have aV := n0_
        have aH := n1_
        have aI := n2_
        have aJ := n3_
        have aC := n4_
        have aD := n5_
        have aK := n6_
        have ax := n7_
        have ay := n8_
        have au := n9_
        have bm := n10_
        have bn := n11_
        have bo := n12_
        have ak := n13_
        have ap := n14_
        have aw := n15_
        have HB := n16_
        have bb := n17_
        have bF := n18_
        have bh := n19_
        have bc := n20_
        have be := n21_
        have bd := n22_
        have bf := n23_
        have aW := n24_
        have bg := n25_
        clear n0_ n1_ n2_ n3_ n4_ n5_ n6_ n7_ n8_ n9_ n10_ n11_ n12_ n13_ n14_ n15_ n16_ n17_ n18_ n19_ n20_ n21_ n22_ n23_ n24_ n25_
        clear hb hbox hg
        refine hK.out _ _ ⟨(blk_cell aw.out 0).trans rfl, (blk_cell aw.out 1).trans rfl, (blk_cell aw.out 2).trans rfl, (blk_cell aw.out 3).trans rfl, HS4_, HS5_, HS6_, HS7_, HS8_, HS9_, HS10_, HS11_, HS12_⟩ (fun hHeld => ?_)
        clear hK K
        refine norm_ (a' := ?_) ?_ ?_
        rotate_left
        ·show Act.put _ (some 12) _ = _
         simp only [Act.put, sT, s0, s1, i64_w, i32_w]
         rfl
        exact norm_ (by simp only [putAll, Act.put, sT, s0, s1]) (hCont (v487, v490, v493, ag) _ ⟨hHeld, (zV (Kd.V_mono bm.out (fun _ hk => ⟨hk.1.1, ⟨hk.1.2.1, ⟨hk.1.2.2.1, ⟨hk.1.2.2.2, hk.2⟩⟩⟩⟩))), (zV (Kd.V_mono bn.out (fun _ hk => ⟨hk.1.1, ⟨hk.1.2.1, ⟨hk.1.2.2.1, ⟨hk.1.2.2.2, hk.2⟩⟩⟩⟩))), (zV (Kd.V_mono bo.out (fun _ hk => ⟨hk.1.1, ⟨hk.1.2.1, ⟨hk.1.2.2.1, ⟨hk.1.2.2.2, hk.2⟩⟩⟩⟩))), (zV (Kd.V_mono aH.out (fun _ hk => ⟨hk.1.1, ⟨hk.1.2.1, ⟨hk.1.2.2.1, ⟨hk.1.2.2.2, hk.2⟩⟩⟩⟩))), (zV (Kd.V_mono aI.out (fun _ hk => ⟨hk.1.1, ⟨hk.1.2.1, ⟨hk.1.2.2.1, ⟨hk.1.2.2.2, hk.2⟩⟩⟩⟩))), (zV (Kd.V_mono aJ.out (fun _ hk => ⟨hk.1.1, ⟨hk.1.2.1, ⟨hk.1.2.2.1, ⟨hk.1.2.2.2, hk.2⟩⟩⟩⟩))), (zV (Kd.V_mono aC.out (fun _ hk => ⟨hk.1.1, ⟨hk.1.2.1, ⟨hk.1.2.2.1, ⟨hk.1.2.2.2, hk.2⟩⟩⟩⟩))), (zV (Kd.V_mono aD.out (fun _ hk => ⟨hk.1.1, ⟨hk.1.2.1, ⟨hk.1.2.2.1, ⟨hk.1.2.2.2, hk.2⟩⟩⟩⟩))), (zV (Kd.V_mono aK.out (fun _ hk => ⟨hk.1.1, ⟨hk.1.2.1, ⟨hk.1.2.2.1, ⟨hk.1.2.2.2, hk.2⟩⟩⟩⟩))), (zV (Kd.V_mono ax.out (fun _ hk => ⟨hk.1.1, ⟨hk.1.2.1, ⟨hk.1.2.2.1, ⟨hk.1.2.2.2, hk.2⟩⟩⟩⟩))), (zV (Kd.V_mono ay.out (fun _ hk => ⟨hk.1.1, ⟨hk.1.2.1, ⟨hk.1.2.2.1, ⟨hk.1.2.2.2, hk.2⟩⟩⟩⟩))), (zV (Kd.V_mono au.out (fun _ hk => ⟨hk.1.1, ⟨hk.1.2.1, ⟨hk.1.2.2.1, ⟨hk.1.2.2.2, hk.2⟩⟩⟩⟩))), (zV (Kd.V_mono aV.out (fun _ hk => ⟨hk.1.1, ⟨hk.1.2.1, ⟨hk.1.2.2.1, ⟨hk.1.2.2.2, hk.2⟩⟩⟩⟩))), (zB ak.out), (zB ap.out), (zB aw.out), (zB bb.out), bF.out, bh.out, bc.out, be.out, bd.out, bf.out, aW.out, bg.out, (by repeat (first | (with_reducible first | exact HB.out | apply pA | apply pN | apply pD | refine pS ?_ aM.out | refine pS ?_ aP.out | refine pS ?_ aX.out | refine pS ?_ bh.out) | exact HB.out))⟩)
       ·skip
        refine box_step ?hg (N := 12) ?hd (cs := #[.int .i64 0, .slice none 0 0, .slice none 0 0, .slice none 0 0]) (t := 26) ?hr ?_; (case hd => rfl); (case hg => rfl); (case hr => first | (go_simp; done) | (go_simp; rfl))
        intro ag hg w30 hbox hb
        have HS4_ := (hb.cell (World.block_lt_of_cell? _ _ (hHeld.2.2.2.2.1))).trans (hHeld.2.2.2.2.1)
        have HS5_ := (hb.cell (World.block_lt_of_cell? _ _ (hHeld.2.2.2.2.2.1))).trans (hHeld.2.2.2.2.2.1)
        have HS6_ := (hb.cell (World.block_lt_of_cell? _ _ (hHeld.2.2.2.2.2.2.1))).trans (hHeld.2.2.2.2.2.2.1)
        have HS7_ := (hb.cell (World.block_lt_of_cell? _ _ (hHeld.2.2.2.2.2.2.2.1))).trans (hHeld.2.2.2.2.2.2.2.1)
        have HS8_ := (hb.cell (World.block_lt_of_cell? _ _ (hHeld.2.2.2.2.2.2.2.2.1))).trans (hHeld.2.2.2.2.2.2.2.2.1)
        have HS9_ := (hb.cell (World.block_lt_of_cell? _ _ (hHeld.2.2.2.2.2.2.2.2.2.1))).trans (hHeld.2.2.2.2.2.2.2.2.2.1)
        have HS10_ := (hb.cell (World.block_lt_of_cell? _ _ (hHeld.2.2.2.2.2.2.2.2.2.2.1))).trans (hHeld.2.2.2.2.2.2.2.2.2.2.1)
        have HS11_ := (hb.cell (World.block_lt_of_cell? _ _ (hHeld.2.2.2.2.2.2.2.2.2.2.2.1))).trans (hHeld.2.2.2.2.2.2.2.2.2.2.2.1)
        have HS12_ := (hb.cell (World.block_lt_of_cell? _ _ (hHeld.2.2.2.2.2.2.2.2.2.2.2.2))).trans (hHeld.2.2.2.2.2.2.2.2.2.2.2.2)
        have n0_ := Aside0.mk (Kd.V_below (Kd.V_elderB (zV aV.out) ag (Nat.le_of_eq hg.symm)) hb)
        have n1_ := Aside0.mk (Kd.V_below (Kd.V_elderB (zV aH.out) ag (Nat.le_of_eq hg.symm)) hb)
        have n2_ := Aside0.mk (Kd.V_below (Kd.V_elderB (zV aI.out) ag (Nat.le_of_eq hg.symm)) hb)
        have n3_ := Aside0.mk (Kd.V_below (Kd.V_elderB (zV aJ.out) ag (Nat.le_of_eq hg.symm)) hb)
        have n4_ := Aside0.mk (Kd.V_below (Kd.V_elderB (zV aC.out) ag (Nat.le_of_eq hg.symm)) hb)
        have n5_ := Aside0.mk (Kd.V_below (Kd.V_elderB (zV aD.out) ag (Nat.le_of_eq hg.symm)) hb)
        have n6_ := Aside0.mk (Kd.V_below (Kd.V_elderB (zV aK.out) ag (Nat.le_of_eq hg.symm)) hb)
        have n7_ := Aside0.mk (Kd.V_below (Kd.V_elderB (zV ax.out) ag (Nat.le_of_eq hg.symm)) hb)
        have n8_ := Aside0.mk (Kd.V_below (Kd.V_elderB (zV ay.out) ag (Nat.le_of_eq hg.symm)) hb)
        have n9_ := Aside0.mk (Kd.V_below (Kd.V_elderB (zV au.out) ag (Nat.le_of_eq hg.symm)) hb)
        have n10_ := Aside0.mk (blk_below (g := ac) (o := .cells #[.int .i64 ah, .slice am ae.length an, .slice aq af.length ar, .slice az ai.length aA, .string aN, .bool aT, .int .i64 aO] 59 (0, 0)) (zB ak.out) hb)
        have n11_ := Aside0.mk (blk_below (g := ad) (o := .cells #[.int .i64 ah, .slice am ae.length an, .slice aq af.length ar, .slice az ai.length aA] 26 (0, 0)) (zB ap.out) hb)
        have n12_ := Aside0.mk (blk_below (g := ab) (o := .cells #[.int .i64 av, .slice a9 ao.length ba, .slice a7 al.length a8, .slice aY aj.length aZ] 26 (0, 0)) (zB aw.out) hb)
        have n13_ := Aside0.mk (below_step (by repeat (first | (with_reducible first | exact HB.out | apply pA | apply pN | apply pD | refine pS ?_ aM.out | refine pS ?_ aP.out | refine pS ?_ aX.out) | exact HB.out)) hb)
        have n14_ := Aside0.mk (hbox)
        have n15_ := Aside0.mk ((by rw [hg]; exact (below_size (by repeat (first | (with_reducible first | exact HB.out | apply pA | apply pN | apply pD | refine pS ?_ aM.out | refine pS ?_ aP.out | refine pS ?_ aX.out) | exact HB.out))) : w.heap.size ≤ ag))
        have n16_ := Aside0.mk ((by rw [hg]; exact (below_size (by repeat (first | (with_reducible first | exact HB.out | apply pA | apply pN | apply pD | refine pS ?_ aM.out | refine pS ?_ aP.out | refine pS ?_ aX.out) | exact HB.out))) : w.heap.size ≤ ag))
        have n17_ := Aside0.mk ((by rw [hg]; exact Nat.ne_of_lt (blk_lt (g := ac) (o := .cells #[.int .i64 ah, .slice am ae.length an, .slice aq af.length ar, .slice az ai.length aA, .string aN, .bool aT, .int .i64 aO] 59 (0, 0)) (zB ak.out)) : ac ≠ ag))
        have n18_ := Aside0.mk ((by rw [hg]; exact Nat.ne_of_gt (blk_lt (g := ac) (o := .cells #[.int .i64 ah, .slice am ae.length an, .slice aq af.length ar, .slice az ai.length aA, .string aN, .bool aT, .int .i64 aO] 59 (0, 0)) (zB ak.out)) : ag ≠ ac))
        have n19_ := Aside0.mk ((by rw [hg]; exact Nat.ne_of_lt (blk_lt (g := ad) (o := .cells #[.int .i64 ah, .slice am ae.length an, .slice aq af.length ar, .slice az ai.length aA] 26 (0, 0)) (zB ap.out)) : ad ≠ ag))
        have n20_ := Aside0.mk ((by rw [hg]; exact Nat.ne_of_gt (blk_lt (g := ad) (o := .cells #[.int .i64 ah, .slice am ae.length an, .slice aq af.length ar, .slice az ai.length aA] 26 (0, 0)) (zB ap.out)) : ag ≠ ad))
        have n21_ := Aside0.mk ((by rw [hg]; exact Nat.ne_of_lt (blk_lt (g := ab) (o := .cells #[.int .i64 av, .slice a9 ao.length ba, .slice a7 al.length a8, .slice aY aj.length aZ] 26 (0, 0)) (zB aw.out)) : ab ≠ ag))
        have n22_ := Aside0.mk ((by rw [hg]; exact Nat.ne_of_gt (blk_lt (g := ab) (o := .cells #[.int .i64 av, .slice a9 ao.length ba, .slice a7 al.length a8, .slice aY aj.length aZ] 26 (0, 0)) (zB aw.out)) : ag ≠ ab))
        clear aV
        clear aH
        clear aI
        clear aJ
        clear aC
        clear aD
        clear aK
        clear ax
        clear ay
        clear au
        clear ak
        clear ap
        clear aw
        clear HB
        have aV := n0_
        have aH := n1_
        have aI := n2_
        have aJ := n3_
        have aC := n4_
        have aD := n5_
        have aK := n6_
        have ax := n7_
        have ay := n8_
        have au := n9_
        have ak := n10_
        have ap := n11_
        have aw := n12_
        have HB := n13_
        have bb := n14_
        have bF := n15_
        have bh := n16_
        have bc := n17_
        have be := n18_
        have bd := n19_
        have bf := n20_
        have aW := n21_
        have bg := n22_
        clear n0_ n1_ n2_ n3_ n4_ n5_ n6_ n7_ n8_ n9_ n10_ n11_ n12_ n13_ n14_ n15_ n16_ n17_ n18_ n19_ n20_ n21_ n22_
        clear hb hbox hg
        refine hK.out _ _ ⟨(blk_cell aw.out 0).trans rfl, (blk_cell aw.out 1).trans rfl, (blk_cell aw.out 2).trans rfl, (blk_cell aw.out 3).trans rfl, HS4_, HS5_, HS6_, HS7_, HS8_, HS9_, HS10_, HS11_, HS12_⟩ (fun hHeld => ?_)
        clear hK K
        refine norm_ (a' := ?_) ?_ ?_
        rotate_left
        ·show Act.put _ (some 12) _ = _
         simp only [Act.put, sT, s0, s1, i64_w, i32_w]
         rfl
        refine one_ (i := 5) (N := some 51) #[true, true, true, true, true, true, false, false, false, true, false, false] rfl rfl (one_of HT_.out (by kernel_rfl)) (by decide) (fun K hK => ?_)
        refine goes_ Try.func14 (by kernel_rfl) rfl #[.agg #[.int .i64 av, .slice a9 ao.length ba, .slice a7 al.length a8, .slice aY aj.length aZ], .agg #[.int .i64 ((rd_T41 aB aa).f0), .int .i64 ((rd_T41 aB aa).f1), .int .i64 ((rd_T41 aB aa).f2), .int .u32 ((rd_T41 aB aa).f3), .string ((rd_T41 aB aa).f4), .int .u64 ((rd_T41 aB aa).f5), .int .u64 ((rd_T41 aB aa).f6), .int .i64 ((rd_T41 aB aa).f7), .int .i64 ((rd_T41 aB aa).f8)]] (by rfl) rfl rfl (by (try simp only [List.map_toArray, List.map_cons, List.map_nil]); first | done | rfl | (simp only [List.length_drop, List.length_take]; rfl)) ?_
        with_reducible refine (portreeveref04_Apply.calls k1 av (fun k_ => ((((aE k_ ∨ aF k_ ∨ aG k_) ∨ w.heap.size ≤ k_) ∧ (k_ ≠ ac ∧ (k_ ≠ ad ∧ k_ ≠ ab))) ∧ k_ ≠ ag)) _ _ ao (fun k_ => ((((aE k_ ∨ aF k_ ∨ aG k_) ∨ w.heap.size ≤ k_) ∧ (k_ ≠ ac ∧ (k_ ≠ ad ∧ k_ ≠ ab))) ∧ k_ ≠ ag)) _ _ al (fun k_ => ((((aE k_ ∨ aF k_ ∨ aG k_) ∨ w.heap.size ≤ k_) ∧ (k_ ≠ ac ∧ (k_ ≠ ad ∧ k_ ≠ ab))) ∧ k_ ≠ ag)) _ _ aj ((rd_T41 aB aa).f0) ((rd_T41 aB aa).f1) ((rd_T41 aB aa).f2) ((rd_T41 aB aa).f3) ((rd_T41 aB aa).f4) ((rd_T41 aB aa).f5) ((rd_T41 aB aa).f6) ((rd_T41 aB aa).f7) ((rd_T41 aB aa).f8) br bt bw bz bG _ ?side1 ?side2 ?side3 dm.out).mono ?_
        (case side1 => exact ax.out)
        (case side2 => exact ay.out)
        (case side3 => exact au.out)
        rintro e w31 ⟨v487, v490, v493, rfl, ho0, ho1, ho2, hb⟩
        have HS4_ := (hb.cell (World.block_lt_of_cell? _ _ (hHeld.2.2.2.2.1))).trans (hHeld.2.2.2.2.1)
        have HS5_ := (hb.cell (World.block_lt_of_cell? _ _ (hHeld.2.2.2.2.2.1))).trans (hHeld.2.2.2.2.2.1)
        have HS6_ := (hb.cell (World.block_lt_of_cell? _ _ (hHeld.2.2.2.2.2.2.1))).trans (hHeld.2.2.2.2.2.2.1)
        have HS7_ := (hb.cell (World.block_lt_of_cell? _ _ (hHeld.2.2.2.2.2.2.2.1))).trans (hHeld.2.2.2.2.2.2.2.1)
        have HS8_ := (hb.cell (World.block_lt_of_cell? _ _ (hHeld.2.2.2.2.2.2.2.2.1))).trans (hHeld.2.2.2.2.2.2.2.2.1)
        have HS9_ := (hb.cell (World.block_lt_of_cell? _ _ (hHeld.2.2.2.2.2.2.2.2.2.1))).trans (hHeld.2.2.2.2.2.2.2.2.2.1)
        have HS10_ := (hb.cell (World.block_lt_of_cell? _ _ (hHeld.2.2.2.2.2.2.2.2.2.2.1))).trans (hHeld.2.2.2.2.2.2.2.2.2.2.1)
        have HS11_ := (hb.cell (World.block_lt_of_cell? _ _ (hHeld.2.2.2.2.2.2.2.2.2.2.2.1))).trans (hHeld.2.2.2.2.2.2.2.2.2.2.2.1)
        have HS12_ := (hb.cell (World.block_lt_of_cell? _ _ (hHeld.2.2.2.2.2.2.2.2.2.2.2.2))).trans (hHeld.2.2.2.2.2.2.2.2.2.2.2.2)
        refine ⟨_, rfl, ?_⟩
        have n0_ := Aside0.mk (Kd.V_below (zV aV.out) hb)
        have n1_ := Aside0.mk (Kd.V_below (zV aH.out) hb)
        have n2_ := Aside0.mk (Kd.V_below (zV aI.out) hb)
        have n3_ := Aside0.mk (Kd.V_below (zV aJ.out) hb)
        have n4_ := Aside0.mk (Kd.V_below (zV aC.out) hb)
        have n5_ := Aside0.mk (Kd.V_below (zV aD.out) hb)
        have n6_ := Aside0.mk (Kd.V_below (zV aK.out) hb)
        have n7_ := Aside0.mk (Kd.V_below (zV ax.out) hb)
        have n8_ := Aside0.mk (Kd.V_below (zV ay.out) hb)
        have n9_ := Aside0.mk (Kd.V_below (zV au.out) hb)
        have n10_ := Aside0.mk (Kd.V_lower (Kd.V_mono (ok' := fun k_ => ((aE k_ ∨ aF k_ ∨ aG k_) ∨ w.heap.size ≤ k_) ∧ k_ ≠ ac ∧ k_ ≠ ad ∧ k_ ≠ ab ∧ k_ ≠ ag) ho0 (fun k_ hk_ => ⟨Or.elim hk_ (fun hs_ => Or.elim hs_ (fun hs_ => hs_.1.1) (fun hs_ => Or.elim hs_ (fun hs_ => hs_.1.1) (fun hs_ => hs_.1.1))) (fun hn_ => (.inr (Nat.le_trans (below_size (by repeat (first | (with_reducible first | exact HB.out | apply pA | apply pN | apply pD | refine pS ?_ aM.out | refine pS ?_ aP.out | refine pS ?_ aX.out | refine pS ?_ bh.out) | exact HB.out))) hn_))), Or.elim hk_ (fun hs_ => Or.elim hs_ (fun hs_ => hs_.1.2.1) (fun hs_ => Or.elim hs_ (fun hs_ => hs_.1.2.1) (fun hs_ => hs_.1.2.1))) (fun hn_ => (Kd.freshB (g := ac) (o := .cells #[.int .i64 ah, .slice am ae.length an, .slice aq af.length ar, .slice az ai.length aA, .string aN, .bool aT, .int .i64 aO] 59 (0, 0)) (zB ak.out) k_ hn_)), Or.elim hk_ (fun hs_ => Or.elim hs_ (fun hs_ => hs_.1.2.2.1) (fun hs_ => Or.elim hs_ (fun hs_ => hs_.1.2.2.1) (fun hs_ => hs_.1.2.2.1))) (fun hn_ => (Kd.freshB (g := ad) (o := .cells #[.int .i64 ah, .slice am ae.length an, .slice aq af.length ar, .slice az ai.length aA] 26 (0, 0)) (zB ap.out) k_ hn_)), Or.elim hk_ (fun hs_ => Or.elim hs_ (fun hs_ => hs_.1.2.2.2) (fun hs_ => Or.elim hs_ (fun hs_ => hs_.1.2.2.2) (fun hs_ => hs_.1.2.2.2))) (fun hn_ => (Kd.freshB (g := ab) (o := .cells #[.int .i64 av, .slice a9 ao.length ba, .slice a7 al.length a8, .slice aY aj.length aZ] 26 (0, 0)) (zB aw.out) k_ hn_)), Or.elim hk_ (fun hs_ => Or.elim hs_ (fun hs_ => hs_.2) (fun hs_ => Or.elim hs_ (fun hs_ => hs_.2) (fun hs_ => hs_.2))) (fun hn_ => (Kd.freshB (g := ag) (o := .cells #[.int .i64 0, .slice none 0 0, .slice none 0 0, .slice none 0 0] 26 (0, 0)) (zB bb.out) k_ hn_))⟩)) (below_size (by repeat (first | (with_reducible first | exact HB.out | apply pA | apply pN | apply pD | refine pS ?_ aM.out | refine pS ?_ aP.out | refine pS ?_ aX.out | refine pS ?_ bh.out) | exact HB.out))))
        have n11_ := Aside0.mk (Kd.V_lower (Kd.V_mono (ok' := fun k_ => ((aE k_ ∨ aF k_ ∨ aG k_) ∨ w.heap.size ≤ k_) ∧ k_ ≠ ac ∧ k_ ≠ ad ∧ k_ ≠ ab ∧ k_ ≠ ag) ho1 (fun k_ hk_ => ⟨Or.elim hk_ (fun hs_ => Or.elim hs_ (fun hs_ => hs_.1.1) (fun hs_ => Or.elim hs_ (fun hs_ => hs_.1.1) (fun hs_ => hs_.1.1))) (fun hn_ => (.inr (Nat.le_trans (below_size (by repeat (first | (with_reducible first | exact HB.out | apply pA | apply pN | apply pD | refine pS ?_ aM.out | refine pS ?_ aP.out | refine pS ?_ aX.out | refine pS ?_ bh.out) | exact HB.out))) hn_))), Or.elim hk_ (fun hs_ => Or.elim hs_ (fun hs_ => hs_.1.2.1) (fun hs_ => Or.elim hs_ (fun hs_ => hs_.1.2.1) (fun hs_ => hs_.1.2.1))) (fun hn_ => (Kd.freshB (g := ac) (o := .cells #[.int .i64 ah, .slice am ae.length an, .slice aq af.length ar, .slice az ai.length aA, .string aN, .bool aT, .int .i64 aO] 59 (0, 0)) (zB ak.out) k_ hn_)), Or.elim hk_ (fun hs_ => Or.elim hs_ (fun hs_ => hs_.1.2.2.1) (fun hs_ => Or.elim hs_ (fun hs_ => hs_.1.2.2.1) (fun hs_ => hs_.1.2.2.1))) (fun hn_ => (Kd.freshB (g := ad) (o := .cells #[.int .i64 ah, .slice am ae.length an, .slice aq af.length ar, .slice az ai.length aA] 26 (0, 0)) (zB ap.out) k_ hn_)), Or.elim hk_ (fun hs_ => Or.elim hs_ (fun hs_ => hs_.1.2.2.2) (fun hs_ => Or.elim hs_ (fun hs_ => hs_.1.2.2.2) (fun hs_ => hs_.1.2.2.2))) (fun hn_ => (Kd.freshB (g := ab) (o := .cells #[.int .i64 av, .slice a9 ao.length ba, .slice a7 al.length a8, .slice aY aj.length aZ] 26 (0, 0)) (zB aw.out) k_ hn_)), Or.elim hk_ (fun hs_ => Or.elim hs_ (fun hs_ => hs_.2) (fun hs_ => Or.elim hs_ (fun hs_ => hs_.2) (fun hs_ => hs_.2))) (fun hn_ => (Kd.freshB (g := ag) (o := .cells #[.int .i64 0, .slice none 0 0, .slice none 0 0, .slice none 0 0] 26 (0, 0)) (zB bb.out) k_ hn_))⟩)) (below_size (by repeat (first | (with_reducible first | exact HB.out | apply pA | apply pN | apply pD | refine pS ?_ aM.out | refine pS ?_ aP.out | refine pS ?_ aX.out | refine pS ?_ bh.out) | exact HB.out))))
        have n12_ := Aside0.mk (Kd.V_lower (Kd.V_mono (ok' := fun k_ => ((aE k_ ∨ aF k_ ∨ aG k_) ∨ w.heap.size ≤ k_) ∧ k_ ≠ ac ∧ k_ ≠ ad ∧ k_ ≠ ab ∧ k_ ≠ ag) ho2 (fun k_ hk_ => ⟨Or.elim hk_ (fun hs_ => Or.elim hs_ (fun hs_ => hs_.1.1) (fun hs_ => Or.elim hs_ (fun hs_ => hs_.1.1) (fun hs_ => hs_.1.1))) (fun hn_ => (.inr (Nat.le_trans (below_size (by repeat (first | (with_reducible first | exact HB.out | apply pA | apply pN | apply pD | refine pS ?_ aM.out | refine pS ?_ aP.out | refine pS ?_ aX.out | refine pS ?_ bh.out) | exact HB.out))) hn_))), Or.elim hk_ (fun hs_ => Or.elim hs_ (fun hs_ => hs_.1.2.1) (fun hs_ => Or.elim hs_ (fun hs_ => hs_.1.2.1) (fun hs_ => hs_.1.2.1))) (fun hn_ => (Kd.freshB (g := ac) (o := .cells #[.int .i64 ah, .slice am ae.length an, .slice aq af.length ar, .slice az ai.length aA, .string aN, .bool aT, .int .i64 aO] 59 (0, 0)) (zB ak.out) k_ hn_)), Or.elim hk_ (fun hs_ => Or.elim hs_ (fun hs_ => hs_.1.2.2.1) (fun hs_ => Or.elim hs_ (fun hs_ => hs_.1.2.2.1) (fun hs_ => hs_.1.2.2.1))) (fun hn_ => (Kd.freshB (g := ad) (o := .cells #[.int .i64 ah, .slice am ae.length an, .slice aq af.length ar, .slice az ai.length aA] 26 (0, 0)) (zB ap.out) k_ hn_)), Or.elim hk_ (fun hs_ => Or.elim hs_ (fun hs_ => hs_.1.2.2.2) (fun hs_ => Or.elim hs_ (fun hs_ => hs_.1.2.2.2) (fun hs_ => hs_.1.2.2.2))) (fun hn_ => (Kd.freshB (g := ab) (o := .cells #[.int .i64 av, .slice a9 ao.length ba, .slice a7 al.length a8, .slice aY aj.length aZ] 26 (0, 0)) (zB aw.out) k_ hn_)), Or.elim hk_ (fun hs_ => Or.elim hs_ (fun hs_ => hs_.2) (fun hs_ => Or.elim hs_ (fun hs_ => hs_.2) (fun hs_ => hs_.2))) (fun hn_ => (Kd.freshB (g := ag) (o := .cells #[.int .i64 0, .slice none 0 0, .slice none 0 0, .slice none 0 0] 26 (0, 0)) (zB bb.out) k_ hn_))⟩)) (below_size (by repeat (first | (with_reducible first | exact HB.out | apply pA | apply pN | apply pD | refine pS ?_ aM.out | refine pS ?_ aP.out | refine pS ?_ aX.out | refine pS ?_ bh.out) | exact HB.out))))
        have n13_ := Aside0.mk (blk_below (g := ac) (o := .cells #[.int .i64 ah, .slice am ae.length an, .slice aq af.length ar, .slice az ai.length aA, .string aN, .bool aT, .int .i64 aO] 59 (0, 0)) (zB ak.out) hb)
        have n14_ := Aside0.mk (blk_below (g := ad) (o := .cells #[.int .i64 ah, .slice am ae.length an, .slice aq af.length ar, .slice az ai.length aA] 26 (0, 0)) (zB ap.out) hb)
        have n15_ := Aside0.mk (blk_below (g := ab) (o := .cells #[.int .i64 av, .slice a9 ao.length ba, .slice a7 al.length a8, .slice aY aj.length aZ] 26 (0, 0)) (zB aw.out) hb)
        have n16_ := Aside0.mk (blk_below (g := ag) (o := .cells #[.int .i64 0, .slice none 0 0, .slice none 0 0, .slice none 0 0] 26 (0, 0)) (zB bb.out) hb)
        have n17_ := Aside0.mk (below_step (by repeat (first | (with_reducible first | exact HB.out | apply pA | apply pN | apply pD | refine pS ?_ aM.out | refine pS ?_ aP.out | refine pS ?_ aX.out | refine pS ?_ bh.out) | exact HB.out)) hb)
        clear aV
        clear aH
        clear aI
        clear aJ
        clear aC
        clear aD
        clear aK
        clear ax
        clear ay
        clear au
        clear ak
        clear ap
        clear aw
        clear bb
        clear HB
        have aV := n0_
        have aH := n1_
        have aI := n2_
        have aJ := n3_
        have aC := n4_
        have aD := n5_
        have aK := n6_
        have ax := n7_
        have ay := n8_
        have au := n9_
        have bm := n10_
        have bn := n11_
        have bo := n12_
        have ak := n13_
        have ap := n14_
        have aw := n15_
        have bb := n16_
        have HB := n17_
        clear n0_ n1_ n2_ n3_ n4_ n5_ n6_ n7_ n8_ n9_ n10_ n11_ n12_ n13_ n14_ n15_ n16_ n17_
        (try clear hb)
        (try clear hb2)
        (try clear hk)
        (try clear hi)
        (try clear ho0)
        (try clear ho1)
        (try clear ho2)
        refine hK.out _ _ ⟨(blk_cell aw.out 0).trans rfl, (blk_cell aw.out 1).trans rfl, (blk_cell aw.out 2).trans rfl, (blk_cell aw.out 3).trans rfl, HS4_, HS5_, HS6_, HS7_, HS8_, HS9_, HS10_, HS11_, HS12_⟩ (fun hHeld => ?_)
        clear hK K
        refine norm_ (a' := ?_) ?_ ?_
        rotate_left
        ·show Act.put _ (some 51) _ = _
         simp only [Act.put, sT, s0, s1, i64_w, i32_w]
         rfl
        refine pure_ (i := 6) (N := some 45) (v := ?_) (a' := ?_) #[true, true, true, true, true, true, true, false, false, true, false, false] rfl rfl (any_of HT_.out (by kernel_rfl)) (fun _ _ _ h => h) (Or.inl ⟨by rfl, ?_⟩) ?_ ?_
        rotate_left
        ·intro w'
         go_simp
         with_reducible rfl
        rotate_left
        ·simp only [Act.put, sT, s0, s1, i64_w, i32_w]
         rfl
        refine pure_ (i := 7) (N := some 52) (v := ?_) (a' := ?_) #[true, true, true, true, true, true, true, true, false, true, false, false] rfl rfl (any_of HT_.out (by kernel_rfl)) (fun _ _ _ h => h) (Or.inl ⟨by rfl, ?_⟩) ?_ ?_
        rotate_left
        ·intro w'
         go_simp
         with_reducible rfl
        rotate_left
        ·simp only [Act.put, sT, s0, s1, i64_w, i32_w]
         rfl
        refine pure_ (i := 8) (N := some 53) (v := ?_) (a' := ?_) #[true, true, true, true, true, true, true, true, true, true, false, false] rfl rfl (any_of HT_.out (by kernel_rfl)) (fun _ _ _ h => h) (Or.inl ⟨by rfl, ?_⟩) ?_ ?_
        rotate_left
        ·intro w'
         go_simp
         with_reducible rfl
        rotate_left
        ·simp only [Act.put, sT, s0, s1, i64_w, i32_w]
         rfl
        exact norm_ (by simp only [putAll, Act.put, sT, s0, s1]) (hCont (v487, v490, v493, ag) _ ⟨hHeld, (zV bm.out), (zV bn.out), (zV bo.out), (zV (Kd.V_mono aH.out (fun _ hk => ⟨hk.1.1, ⟨hk.1.2.1, ⟨hk.1.2.2.1, ⟨hk.1.2.2.2, hk.2⟩⟩⟩⟩))), (zV (Kd.V_mono aI.out (fun _ hk => ⟨hk.1.1, ⟨hk.1.2.1, ⟨hk.1.2.2.1, ⟨hk.1.2.2.2, hk.2⟩⟩⟩⟩))), (zV (Kd.V_mono aJ.out (fun _ hk => ⟨hk.1.1, ⟨hk.1.2.1, ⟨hk.1.2.2.1, ⟨hk.1.2.2.2, hk.2⟩⟩⟩⟩))), (zV (Kd.V_mono aC.out (fun _ hk => ⟨hk.1.1, ⟨hk.1.2.1, ⟨hk.1.2.2.1, ⟨hk.1.2.2.2, hk.2⟩⟩⟩⟩))), (zV (Kd.V_mono aD.out (fun _ hk => ⟨hk.1.1, ⟨hk.1.2.1, ⟨hk.1.2.2.1, ⟨hk.1.2.2.2, hk.2⟩⟩⟩⟩))), (zV (Kd.V_mono aK.out (fun _ hk => ⟨hk.1.1, ⟨hk.1.2.1, ⟨hk.1.2.2.1, ⟨hk.1.2.2.2, hk.2⟩⟩⟩⟩))), (zV (Kd.V_mono ax.out (fun _ hk => ⟨hk.1.1, ⟨hk.1.2.1, ⟨hk.1.2.2.1, ⟨hk.1.2.2.2, hk.2⟩⟩⟩⟩))), (zV (Kd.V_mono ay.out (fun _ hk => ⟨hk.1.1, ⟨hk.1.2.1, ⟨hk.1.2.2.1, ⟨hk.1.2.2.2, hk.2⟩⟩⟩⟩))), (zV (Kd.V_mono au.out (fun _ hk => ⟨hk.1.1, ⟨hk.1.2.1, ⟨hk.1.2.2.1, ⟨hk.1.2.2.2, hk.2⟩⟩⟩⟩))), (zV (Kd.V_mono aV.out (fun _ hk => ⟨hk.1.1, ⟨hk.1.2.1, ⟨hk.1.2.2.1, ⟨hk.1.2.2.2, hk.2⟩⟩⟩⟩))), (zB ak.out), (zB ap.out), (zB aw.out), (zB bb.out), bF.out, bh.out, bc.out, be.out, bd.out, bf.out, aW.out, bg.out, (by repeat (first | (with_reducible first | exact HB.out | apply pA | apply pN | apply pD | refine pS ?_ aM.out | refine pS ?_ aP.out | refine pS ?_ aX.out | refine pS ?_ bh.out) | exact HB.out))⟩)
      rintro ⟨v487, v490, v493, ag⟩ w32 ⟨hS_, h0_, h1_, h2_, h3_, h4_, h5_, h6_, h7_, h8_, h9_, h10_, h11_, h12_, h13_, h14_, h15_, h16_, h17_, h18_, h19_, h20_, h21_, h22_, h23_, h24_, h25_⟩
      have n0_ : Aside0 (Kd.V k76 76 w32 w.heap.size (fun k_ => ((aE k_ ∨ aF k_ ∨ aG k_) ∨ w.heap.size ≤ k_) ∧ k_ ≠ ac ∧ k_ ≠ ad ∧ k_ ≠ ab ∧ k_ ≠ ag) v487 bt) := ⟨h0_⟩
      have n1_ : Aside0 (Kd.V k72 72 w32 w.heap.size (fun k_ => ((aE k_ ∨ aF k_ ∨ aG k_) ∨ w.heap.size ≤ k_) ∧ k_ ≠ ac ∧ k_ ≠ ad ∧ k_ ≠ ab ∧ k_ ≠ ag) v490 bw) := ⟨h1_⟩
      have n2_ : Aside0 (Kd.V k64 64 w32 w.heap.size (fun k_ => ((aE k_ ∨ aF k_ ∨ aG k_) ∨ w.heap.size ≤ k_) ∧ k_ ≠ ac ∧ k_ ≠ ad ∧ k_ ≠ ab ∧ k_ ≠ ag) v493 bz) := ⟨h2_⟩
      have n3_ : Aside0 (Kd.V k76 76 w32 w.heap.size (fun k_ => ((aE k_ ∨ aF k_ ∨ aG k_) ∨ w.heap.size ≤ k_) ∧ k_ ≠ ac ∧ k_ ≠ ad ∧ k_ ≠ ab ∧ k_ ≠ ag) (.slice am ae.length an) ae) := ⟨h3_⟩
      have n4_ : Aside0 (Kd.V k72 72 w32 w.heap.size (fun k_ => ((aE k_ ∨ aF k_ ∨ aG k_) ∨ w.heap.size ≤ k_) ∧ k_ ≠ ac ∧ k_ ≠ ad ∧ k_ ≠ ab ∧ k_ ≠ ag) (.slice aq af.length ar) af) := ⟨h4_⟩
      have n5_ : Aside0 (Kd.V k64 64 w32 w.heap.size (fun k_ => ((aE k_ ∨ aF k_ ∨ aG k_) ∨ w.heap.size ≤ k_) ∧ k_ ≠ ac ∧ k_ ≠ ad ∧ k_ ≠ ab ∧ k_ ≠ ag) (.slice az ai.length aA) ai) := ⟨h5_⟩
      have n6_ : Aside0 (Kd.V k76 76 w32 w.heap.size (fun k_ => ((aE k_ ∨ aF k_ ∨ aG k_) ∨ w.heap.size ≤ k_) ∧ k_ ≠ ac ∧ k_ ≠ ad ∧ k_ ≠ ab ∧ k_ ≠ ag) (.slice am ae.length an) ae) := ⟨h6_⟩
      have n7_ : Aside0 (Kd.V k72 72 w32 w.heap.size (fun k_ => ((aE k_ ∨ aF k_ ∨ aG k_) ∨ w.heap.size ≤ k_) ∧ k_ ≠ ac ∧ k_ ≠ ad ∧ k_ ≠ ab ∧ k_ ≠ ag) (.slice aq af.length ar) af) := ⟨h7_⟩
      have n8_ : Aside0 (Kd.V k64 64 w32 w.heap.size (fun k_ => ((aE k_ ∨ aF k_ ∨ aG k_) ∨ w.heap.size ≤ k_) ∧ k_ ≠ ac ∧ k_ ≠ ad ∧ k_ ≠ ab ∧ k_ ≠ ag) (.slice az ai.length aA) ai) := ⟨h8_⟩
      have n9_ : Aside0 (Kd.V k76 76 w32 w.heap.size (fun k_ => ((aE k_ ∨ aF k_ ∨ aG k_) ∨ w.heap.size ≤ k_) ∧ k_ ≠ ac ∧ k_ ≠ ad ∧ k_ ≠ ab ∧ k_ ≠ ag) (.slice a9 ao.length ba) ao) := ⟨h9_⟩
      have n10_ : Aside0 (Kd.V k72 72 w32 w.heap.size (fun k_ => ((aE k_ ∨ aF k_ ∨ aG k_) ∨ w.heap.size ≤ k_) ∧ k_ ≠ ac ∧ k_ ≠ ad ∧ k_ ≠ ab ∧ k_ ≠ ag) (.slice a7 al.length a8) al) := ⟨h10_⟩
      have n11_ : Aside0 (Kd.V k64 64 w32 w.heap.size (fun k_ => ((aE k_ ∨ aF k_ ∨ aG k_) ∨ w.heap.size ≤ k_) ∧ k_ ≠ ac ∧ k_ ≠ ad ∧ k_ ≠ ab ∧ k_ ≠ ag) (.slice aY aj.length aZ) aj) := ⟨h11_⟩
      have n12_ : Aside0 (Kd.V k41 41 w32 w.heap.size (fun k_ => ((aE k_ ∨ aF k_ ∨ aG k_) ∨ w.heap.size ≤ k_) ∧ k_ ≠ ac ∧ k_ ≠ ad ∧ k_ ≠ ab ∧ k_ ≠ ag) (.slice (some aL) aB.length c3) aB) := ⟨h12_⟩
      have n13_ : Aside0 (w32.heap[ac]? = some (.cells #[.int .i64 ah, .slice am ae.length an, .slice aq af.length ar, .slice az ai.length aA, .string aN, .bool aT, .int .i64 aO] 59 (0, 0))) := ⟨h13_⟩
      have n14_ : Aside0 (w32.heap[ad]? = some (.cells #[.int .i64 ah, .slice am ae.length an, .slice aq af.length ar, .slice az ai.length aA] 26 (0, 0))) := ⟨h14_⟩
      have n15_ : Aside0 (w32.heap[ab]? = some (.cells #[.int .i64 av, .slice a9 ao.length ba, .slice a7 al.length a8, .slice aY aj.length aZ] 26 (0, 0))) := ⟨h15_⟩
      have n16_ : Aside0 (w32.heap[ag]? = some (.cells #[.int .i64 0, .slice none 0 0, .slice none 0 0, .slice none 0 0] 26 (0, 0))) := ⟨h16_⟩
      have n17_ : Aside0 (w.heap.size ≤ ag) := ⟨h17_⟩
      have n18_ : Aside0 (w.heap.size ≤ ag) := ⟨h18_⟩
      have n19_ : Aside0 (ac ≠ ag) := ⟨h19_⟩
      have n20_ : Aside0 (ag ≠ ac) := ⟨h20_⟩
      have n21_ : Aside0 (ad ≠ ag) := ⟨h21_⟩
      have n22_ : Aside0 (ag ≠ ad) := ⟨h22_⟩
      have n23_ : Aside0 (ab ≠ ag) := ⟨h23_⟩
      have n24_ : Aside0 (ag ≠ ab) := ⟨h24_⟩
      have n25_ : Aside0 (Below w.heap.size w w32) := ⟨h25_⟩
      clear aV
      clear aH
      clear aI
      clear aJ
      clear aC
      clear aD
      clear aK
      clear ax
      clear ay
      clear au
      clear ak
      clear ap
      clear aw
      clear HB
      clear h0_ h1_ h2_ h3_ h4_ h5_ h6_ h7_ h8_ h9_ h10_ h11_ h12_ h13_ h14_ h15_ h16_ h17_ h18_ h19_ h20_ h21_ h22_ h23_ h24_ h25_
      have bm := n0_
      have bn := n1_
      have bo := n2_
      have aH := n3_
      have aI := n4_
      have aJ := n5_
      have aC := n6_
      have aD := n7_
      have aK := n8_
      have ax := n9_
      have ay := n10_
      have au := n11_
      have aV := n12_
      have ak := n13_
      have ap := n14_
      have aw := n15_
      have bb := n16_
      have bF := n17_
      have bh := n18_
      have bc := n19_
      have be := n20_
      have bd := n21_
      have bf := n22_
      have aW := n23_
      have bg := n24_
      have HB := n25_
      clear n0_ n1_ n2_ n3_ n4_ n5_ n6_ n7_ n8_ n9_ n10_ n11_ n12_ n13_ n14_ n15_ n16_ n17_ n18_ n19_ n20_ n21_ n22_ n23_ n24_ n25_
      have hHeld : w32.cell? ⟨ab, 0, none⟩ = some (.int .i64 av) ∧ w32.cell? ⟨ab, 1, none⟩ = some (.slice a9 ao.length ba) ∧ w32.cell? ⟨ab, 2, none⟩ = some (.slice a7 al.length a8) ∧ w32.cell? ⟨ab, 3, none⟩ = some (.slice aY aj.length aZ) ∧ w32.cell? (aL.add ((aa).toNat * 9)) = some (.int .i64 ((rd_T41 aB aa).f0)) ∧ w32.cell? ⟨(aL.add ((aa).toNat * 9)).block, (aL.add ((aa).toNat * 9)).off + 1, none⟩ = some (.int .i64 ((rd_T41 aB aa).f1)) ∧ w32.cell? ⟨(aL.add ((aa).toNat * 9)).block, (aL.add ((aa).toNat * 9)).off + 2, none⟩ = some (.int .i64 ((rd_T41 aB aa).f2)) ∧ w32.cell? ⟨(aL.add ((aa).toNat * 9)).block, (aL.add ((aa).toNat * 9)).off + 3, none⟩ = some (.int .u32 ((rd_T41 aB aa).f3)) ∧ w32.cell? ⟨(aL.add ((aa).toNat * 9)).block, (aL.add ((aa).toNat * 9)).off + 4, none⟩ = some (.string ((rd_T41 aB aa).f4)) ∧ w32.cell? ⟨(aL.add ((aa).toNat * 9)).block, (aL.add ((aa).toNat * 9)).off + 5, none⟩ = some (.int .u64 ((rd_T41 aB aa).f5)) ∧ w32.cell? ⟨(aL.add ((aa).toNat * 9)).block, (aL.add ((aa).toNat * 9)).off + 6, none⟩ = some (.int .u64 ((rd_T41 aB aa).f6)) ∧ w32.cell? ⟨(aL.add ((aa).toNat * 9)).block, (aL.add ((aa).toNat * 9)).off + 7, none⟩ = some (.int .i64 ((rd_T41 aB aa).f7)) ∧ w32.cell? ⟨(aL.add ((aa).toNat * 9)).block, (aL.add ((aa).toNat * 9)).off + 8, none⟩ = some (.int .i64 ((rd_T41 aB aa).f8)) := hS_
      obtain ⟨bO, bP, c5⟩ := Kd.V_slice bm.out
      (first | subst c5 | (injection c5 with f1_ f2_ f3_; have f4_ := f1_.symm; have f5_ := f3_.symm; clear f1_ f2_ f3_; subst f4_; subst f5_))
      obtain ⟨c6, c7, da⟩ := Kd.V_slice bn.out
      (first | subst da | (injection da with f1_ f2_ f3_; have f4_ := f1_.symm; have f5_ := f3_.symm; clear f1_ f2_ f3_; subst f4_; subst f5_))
      obtain ⟨du, dv, db⟩ := Kd.V_slice bo.out
      (first | subst db | (injection db with f1_ f2_ f3_; have f4_ := f1_.symm; have f5_ := f3_.symm; clear f1_ f2_ f3_; subst f4_; subst f5_))
      refine norm_ (a' := ?_) ?_ ?_
      rotate_left
      ·simp only [putAll, Act.put, sT, s0, s1]
       rfl
      refine one_ (i := 10) (N := none) #[true, true, true, true, true, true, true, true, true, true, true, false] rfl rfl (one_of HT_.out (by kernel_rfl)) (by decide) (fun K hK => ?_)
      have hs33 : w32.cell? ⟨ag, 0, none⟩ = some (.int .i64 0) := (blk_cell bb.out 0).trans rfl
      have hfs33 := blk_frozen bb.out 0
      have hns33_0 := bc.out
      have hns33_1 := bd.out
      have hns33_2 := aW.out
      have hms33_0 := be.out
      have hms33_1 := bf.out
      have hms33_2 := bg.out
      have hs35 : w32.cell? ⟨ag, 1, none⟩ = some (.slice none 0 0) := (blk_cell bb.out 1).trans rfl
      have hfs35 := blk_frozen bb.out 1
      have hns35_0 := bc.out
      have hns35_1 := bd.out
      have hns35_2 := aW.out
      have hms35_0 := be.out
      have hms35_1 := bf.out
      have hms35_2 := bg.out
      have hs37 : w32.cell? ⟨ag, 2, none⟩ = some (.slice none 0 0) := (blk_cell bb.out 2).trans rfl
      have hfs37 := blk_frozen bb.out 2
      have hns37_0 := bc.out
      have hns37_1 := bd.out
      have hns37_2 := aW.out
      have hms37_0 := be.out
      have hms37_1 := bf.out
      have hms37_2 := bg.out
      have hs39 : w32.cell? ⟨ag, 3, none⟩ = some (.slice none 0 0) := (blk_cell bb.out 3).trans rfl
      have hfs39 := blk_frozen bb.out 3
      have hns39_0 := bc.out
      have hns39_1 := bd.out
      have hns39_2 := aW.out
      have hms39_0 := be.out
      have hms39_1 := bf.out
      have hms39_2 := bg.out
      refine skip_ (w1 := ?_) (by rfl) rfl ?_ ?_
      rotate_left
      ·go_simp
       rfl
      refine hK.out _ _ ⟨(fC aW.out hHeld.1), (fC aW.out hHeld.2.1), (fC aW.out hHeld.2.2.1), (fC aW.out hHeld.2.2.2.1), (fC (g1 := ag) (by have z_ := Kd.own_blk (Kd.V_away aV.out (fun _ hk => hk.2.2.2.2)); first | exact z_ | (rw [add_block]; exact z_) | (show (Addr.add _ _).block ≠ _; rw [add_block]; exact z_)) hHeld.2.2.2.2.1), (fC (g1 := ag) (by have z_ := Kd.own_blk (Kd.V_away aV.out (fun _ hk => hk.2.2.2.2)); first | exact z_ | (rw [add_block]; exact z_) | (show (Addr.add _ _).block ≠ _; rw [add_block]; exact z_)) hHeld.2.2.2.2.2.1), (fC (g1 := ag) (by have z_ := Kd.own_blk (Kd.V_away aV.out (fun _ hk => hk.2.2.2.2)); first | exact z_ | (rw [add_block]; exact z_) | (show (Addr.add _ _).block ≠ _; rw [add_block]; exact z_)) hHeld.2.2.2.2.2.2.1), (fC (g1 := ag) (by have z_ := Kd.own_blk (Kd.V_away aV.out (fun _ hk => hk.2.2.2.2)); first | exact z_ | (rw [add_block]; exact z_) | (show (Addr.add _ _).block ≠ _; rw [add_block]; exact z_)) hHeld.2.2.2.2.2.2.2.1), (fC (g1 := ag) (by have z_ := Kd.own_blk (Kd.V_away aV.out (fun _ hk => hk.2.2.2.2)); first | exact z_ | (rw [add_block]; exact z_) | (show (Addr.add _ _).block ≠ _; rw [add_block]; exact z_)) hHeld.2.2.2.2.2.2.2.2.1), (fC (g1 := ag) (by have z_ := Kd.own_blk (Kd.V_away aV.out (fun _ hk => hk.2.2.2.2)); first | exact z_ | (rw [add_block]; exact z_) | (show (Addr.add _ _).block ≠ _; rw [add_block]; exact z_)) hHeld.2.2.2.2.2.2.2.2.2.1), (fC (g1 := ag) (by have z_ := Kd.own_blk (Kd.V_away aV.out (fun _ hk => hk.2.2.2.2)); first | exact z_ | (rw [add_block]; exact z_) | (show (Addr.add _ _).block ≠ _; rw [add_block]; exact z_)) hHeld.2.2.2.2.2.2.2.2.2.2.1), (fC (g1 := ag) (by have z_ := Kd.own_blk (Kd.V_away aV.out (fun _ hk => hk.2.2.2.2)); first | exact z_ | (rw [add_block]; exact z_) | (show (Addr.add _ _).block ≠ _; rw [add_block]; exact z_)) hHeld.2.2.2.2.2.2.2.2.2.2.2.1), (fC (g1 := ag) (by have z_ := Kd.own_blk (Kd.V_away aV.out (fun _ hk => hk.2.2.2.2)); first | exact z_ | (rw [add_block]; exact z_) | (show (Addr.add _ _).block ≠ _; rw [add_block]; exact z_)) hHeld.2.2.2.2.2.2.2.2.2.2.2.2)⟩ (fun hHeld => ?_)
      clear hK K
      refine pure_ (i := 11) (N := some 13) (v := ?_) (a' := ?_) #[true, true, true, true, true, true, true, true, true, true, true, true] rfl rfl (any_of HT_.out (by kernel_rfl)) (fun _ _ _ h => h) (Or.inl ⟨by rfl, ?_⟩) ?_ ?_
      rotate_left
      ·intro w'
       go_simp
       with_reducible rfl
      rotate_left
      ·simp only [Act.put, sT, s0, s1, i64_w, i32_w]
       rfl
      refine done_ (done_of HT_.out (by kernel_rfl)) ?_
      have fj := be.out
      have fk := bc.out
      have fl := bf.out
      have fm := bd.out
      have fn := bg.out
      have fo := aW.out
      obtain ⟨dA, dB, dC, dD, dE, dF, dG, dH⟩ := bk4 bb.out
      have fp := bu.out
      have fq := bk.out
      have fr := bv.out
      have fs := bl.out
      obtain ⟨dI, dJ, dK, dL, dM, dN, dO, dP⟩ := bk4 aw.out
      try go_wp2
      go_roundg k1
      case measure => have := dl.out; omega
      case rel => exact ⟨(wrap64 (aa + 1)), (br), (bt), (bw), (bz), (.slice bO bt.length bP), (.slice c6 bw.length c7), (.slice du bz.length dv), (by first | rfl | (simp; done) | (simp [*]; done)), H', ⟨by have := dl.out; omega⟩, ⟨(fV2 aV.out (fun k_ hk => (⟨hk, hk.2.2.2.2⟩ : _ ∧ k_ ≠ ag)) (fun k_ hk => (⟨hk, hk.1.2.2.2.1⟩ : _ ∧ k_ ≠ ab)) (fun _ hk => ⟨hk.1.1.1, ⟨hk.1.1.2.1, ⟨hk.1.1.2.2.1, hk.1.1.2.2.2.1⟩⟩⟩))⟩, ⟨(fV2 aH.out (fun k_ hk => (⟨hk, hk.2.2.2.2⟩ : _ ∧ k_ ≠ ag)) (fun k_ hk => (⟨hk, hk.1.2.2.2.1⟩ : _ ∧ k_ ≠ ab)) (fun _ hk => ⟨hk.1.1.1, ⟨hk.1.1.2.1, ⟨hk.1.1.2.2.1, hk.1.1.2.2.2.1⟩⟩⟩))⟩, ⟨(fV2 aI.out (fun k_ hk => (⟨hk, hk.2.2.2.2⟩ : _ ∧ k_ ≠ ag)) (fun k_ hk => (⟨hk, hk.1.2.2.2.1⟩ : _ ∧ k_ ≠ ab)) (fun _ hk => ⟨hk.1.1.1, ⟨hk.1.1.2.1, ⟨hk.1.1.2.2.1, hk.1.1.2.2.2.1⟩⟩⟩))⟩, ⟨(fV2 aJ.out (fun k_ hk => (⟨hk, hk.2.2.2.2⟩ : _ ∧ k_ ≠ ag)) (fun k_ hk => (⟨hk, hk.1.2.2.2.1⟩ : _ ∧ k_ ≠ ab)) (fun _ hk => ⟨hk.1.1.1, ⟨hk.1.1.2.1, ⟨hk.1.1.2.2.1, hk.1.1.2.2.2.1⟩⟩⟩))⟩, ⟨(fV2 aC.out (fun k_ hk => (⟨hk, hk.2.2.2.2⟩ : _ ∧ k_ ≠ ag)) (fun k_ hk => (⟨hk, hk.1.2.2.2.1⟩ : _ ∧ k_ ≠ ab)) (fun _ hk => ⟨hk.1.1.1, ⟨hk.1.1.2.1, ⟨hk.1.1.2.2.1, hk.1.1.2.2.2.1⟩⟩⟩))⟩, ⟨(fV2 aD.out (fun k_ hk => (⟨hk, hk.2.2.2.2⟩ : _ ∧ k_ ≠ ag)) (fun k_ hk => (⟨hk, hk.1.2.2.2.1⟩ : _ ∧ k_ ≠ ab)) (fun _ hk => ⟨hk.1.1.1, ⟨hk.1.1.2.1, ⟨hk.1.1.2.2.1, hk.1.1.2.2.2.1⟩⟩⟩))⟩, ⟨(fV2 aK.out (fun k_ hk => (⟨hk, hk.2.2.2.2⟩ : _ ∧ k_ ≠ ag)) (fun k_ hk => (⟨hk, hk.1.2.2.2.1⟩ : _ ∧ k_ ≠ ab)) (fun _ hk => ⟨hk.1.1.1, ⟨hk.1.1.2.1, ⟨hk.1.1.2.2.1, hk.1.1.2.2.2.1⟩⟩⟩))⟩, ⟨(fV2 bm.out (fun k_ hk => (⟨hk, hk.2.2.2.2⟩ : _ ∧ k_ ≠ ag)) (fun k_ hk => (⟨hk, hk.1.2.2.2.1⟩ : _ ∧ k_ ≠ ab)) (fun _ hk => ⟨hk.1.1.1, ⟨hk.1.1.2.1, ⟨hk.1.1.2.2.1, hk.1.1.2.2.2.1⟩⟩⟩))⟩, ⟨(fV2 bn.out (fun k_ hk => (⟨hk, hk.2.2.2.2⟩ : _ ∧ k_ ≠ ag)) (fun k_ hk => (⟨hk, hk.1.2.2.2.1⟩ : _ ∧ k_ ≠ ab)) (fun _ hk => ⟨hk.1.1.1, ⟨hk.1.1.2.1, ⟨hk.1.1.2.2.1, hk.1.1.2.2.2.1⟩⟩⟩))⟩, ⟨(fV2 bo.out (fun k_ hk => (⟨hk, hk.2.2.2.2⟩ : _ ∧ k_ ≠ ag)) (fun k_ hk => (⟨hk, hk.1.2.2.2.1⟩ : _ ∧ k_ ≠ ab)) (fun _ hk => ⟨hk.1.1.1, ⟨hk.1.1.2.1, ⟨hk.1.1.2.2.1, hk.1.1.2.2.2.1⟩⟩⟩))⟩, ⟨fB2 bk.out bc.out ak.out⟩, ⟨fB2 bl.out bd.out ap.out⟩, ⟨by (with_reducible repeat (first | refine qN ?_ _ | refine qD ?_ | refine qA ?_ _)); refine blk_put (cs := #[.int .i64 br, .slice bO bt.length bP, .slice c6 bw.length c7, .slice aY aj.length aZ]) ?_ 3 _ rfl; (with_reducible repeat (first | refine qN ?_ _ | refine qD ?_ | refine qA ?_ _)); refine blk_put (cs := #[.int .i64 br, .slice bO bt.length bP, .slice a7 al.length a8, .slice aY aj.length aZ]) ?_ 2 _ rfl; (with_reducible repeat (first | refine qN ?_ _ | refine qD ?_ | refine qA ?_ _)); refine blk_put (cs := #[.int .i64 br, .slice a9 ao.length ba, .slice a7 al.length a8, .slice aY aj.length aZ]) ?_ 1 _ rfl; (with_reducible repeat (first | refine qN ?_ _ | refine qD ?_ | refine qA ?_ _)); refine blk_put (cs := #[.int .i64 av, .slice a9 ao.length ba, .slice a7 al.length a8, .slice aY aj.length aZ]) ?_ 0 _ rfl; (with_reducible repeat (first | refine qN ?_ _ | refine qD ?_ | refine qA ?_ _)); refine blk_far ?_ aW.out _; (with_reducible repeat (first | refine qN ?_ _ | refine qD ?_ | refine qA ?_ _)); refine blk_far ?_ aW.out _; (with_reducible repeat (first | refine qN ?_ _ | refine qD ?_ | refine qA ?_ _)); refine blk_far ?_ aW.out _; (with_reducible repeat (first | refine qN ?_ _ | refine qD ?_ | refine qA ?_ _)); refine blk_far ?_ aW.out _; (with_reducible repeat (first | refine qN ?_ _ | refine qD ?_ | refine qA ?_ _)); exact aw.out⟩, ⟨by repeat (first | (with_reducible first | exact HB.out | apply pA | apply pN | apply pD | refine pS ?_ aM.out | refine pS ?_ aP.out | refine pS ?_ aX.out | refine pS ?_ bh.out) | exact HB.out)⟩⟩
     ·rw [if_neg c23] at H
      exact absurd H (by simp)
    ·rw [if_neg c22] at H
     have di : decide (aa < (aB.length : Int)) = false := decide_eq_false c22
     clear c22
     by_cases c47 : bi = true
     ·subst c47
      have H1 : ((portreeveref04_Right.f k1 av ao al aj).bind fun bI => (if bI = true then ((portreeveref04_Same.f k1 av ao al aj ah ae af aj).bind fun bx => (if bx = true then (some (decide ((aB.length : Int) ≤ 1))) else (some false))) else (some false))) = some r := by rw [if_pos rfl] at H; exact H
      clear H
      have H := H1
      clear H1
      replace H := Option.bind_eq_some_iff.mp H
      obtain ⟨bI, dc, H⟩ := H
      replace H : (if bI = true then ((portreeveref04_Same.f k1 av ao al aj ah ae af aj).bind fun bx => (if bx = true then (some (decide ((aB.length : Int) ≤ 1))) else (some false))) else (some false)) = some r := H
      have fc := Aside0.mk dc
      clear dc
      by_cases c49 : bI = true
      ·subst c49
       have H1 : ((portreeveref04_Same.f k1 av ao al aj ah ae af aj).bind fun bx => (if bx = true then (some (decide ((aB.length : Int) ≤ 1))) else (some false))) = some r := by rw [if_pos rfl] at H; exact H
       clear H
       have H := H1
       clear H1
       replace H := Option.bind_eq_some_iff.mp H
       obtain ⟨bx, dd, H⟩ := H
       replace H : (if bx = true then (some (decide ((aB.length : Int) ≤ 1))) else (some false)) = some r := H
       have bS := Aside0.mk dd
       clear dd
       by_cases c51 : bx = true
       ·subst c51
        have H1 : (some (decide ((aB.length : Int) ≤ 1))) = some r := by rw [if_pos rfl] at H; exact H
        clear H
        have H := H1
        clear H1
        clear hlaw_
        obtain rfl := Option.some.inj H
        obtain ⟨fN, fO, dw⟩ := Kd.V_slice aV.out
        subst dw
        have ft := bp.out
        have fu := bj.out
        have fv := bl.out
        have fw := bv.out
        obtain ⟨dQ, dR, dS, dT, dU, dV, dW, dX⟩ := bk4 ap.out
        go_wp2_with (first | ((with_reducible refine gate_dst (N := 14) rfl ?_); (try (refine gate_guard (by rfl) ?_; dsimp only)); refine box_event ?hg (N := 14) ?hd (cs := #[.int .i64 0, .slice none 0 0, .slice none 0 0, .slice none 0 0]) (t := 26) ?hr ?_; (case hd => rfl); (case hg => rfl); (case hr => first | (go_simp; done) | (go_simp; rfl)); intro aU hg w56 hbox hb; have n0_ := Aside0.mk (Kd.V_below (Kd.V_elderB (zV aV.out) aU (Nat.le_of_eq hg.symm)) hb); have n1_ := Aside0.mk (Kd.V_below (Kd.V_elderB (zV aH.out) aU (Nat.le_of_eq hg.symm)) hb); have n2_ := Aside0.mk (Kd.V_below (Kd.V_elderB (zV aI.out) aU (Nat.le_of_eq hg.symm)) hb); have n3_ := Aside0.mk (Kd.V_below (Kd.V_elderB (zV aJ.out) aU (Nat.le_of_eq hg.symm)) hb); have n4_ := Aside0.mk (Kd.V_below (Kd.V_elderB (zV aC.out) aU (Nat.le_of_eq hg.symm)) hb); have n5_ := Aside0.mk (Kd.V_below (Kd.V_elderB (zV aD.out) aU (Nat.le_of_eq hg.symm)) hb); have n6_ := Aside0.mk (Kd.V_below (Kd.V_elderB (zV aK.out) aU (Nat.le_of_eq hg.symm)) hb); have n7_ := Aside0.mk (Kd.V_below (Kd.V_elderB (zV ax.out) aU (Nat.le_of_eq hg.symm)) hb); have n8_ := Aside0.mk (Kd.V_below (Kd.V_elderB (zV ay.out) aU (Nat.le_of_eq hg.symm)) hb); have n9_ := Aside0.mk (Kd.V_below (Kd.V_elderB (zV au.out) aU (Nat.le_of_eq hg.symm)) hb); have n10_ := Aside0.mk (blk_below (g := ac) (o := .cells #[.int .i64 ah, .slice am ae.length an, .slice aq af.length ar, .slice az ai.length aA, .string aN, .bool aT, .int .i64 aO] 59 (0, 0)) (zB ak.out) hb); have n11_ := Aside0.mk (blk_below (g := ad) (o := .cells #[.int .i64 ah, .slice am ae.length an, .slice aq af.length ar, .slice az ai.length aA] 26 (0, 0)) (zB ap.out) hb); have n12_ := Aside0.mk (blk_below (g := ab) (o := .cells #[.int .i64 av, u484001, u484002, u484003] 26 (0, 0)) (zB aw.out) hb); have n13_ := Aside0.mk (below_step (by repeat (first | (with_reducible first | exact HB.out | apply pA | apply pN | apply pD | refine pS ?_ aM.out | refine pS ?_ aP.out | refine pS ?_ aX.out) | exact HB.out)) hb); have n14_ := Aside0.mk (hbox); have n15_ := Aside0.mk ((by rw [hg]; exact (below_size (by repeat (first | (with_reducible first | exact HB.out | apply pA | apply pN | apply pD | refine pS ?_ aM.out | refine pS ?_ aP.out | refine pS ?_ aX.out) | exact HB.out))) : w.heap.size ≤ aU)); have n16_ := Aside0.mk ((by rw [hg]; exact (below_size (by repeat (first | (with_reducible first | exact HB.out | apply pA | apply pN | apply pD | refine pS ?_ aM.out | refine pS ?_ aP.out | refine pS ?_ aX.out) | exact HB.out))) : w.heap.size ≤ aU)); have n17_ := Aside0.mk ((by rw [hg]; exact Nat.ne_of_lt (blk_lt (g := ac) (o := .cells #[.int .i64 ah, .slice am ae.length an, .slice aq af.length ar, .slice az ai.length aA, .string aN, .bool aT, .int .i64 aO] 59 (0, 0)) (zB ak.out)) : ac ≠ aU)); have n18_ := Aside0.mk ((by rw [hg]; exact Nat.ne_of_gt (blk_lt (g := ac) (o := .cells #[.int .i64 ah, .slice am ae.length an, .slice aq af.length ar, .slice az ai.length aA, .string aN, .bool aT, .int .i64 aO] 59 (0, 0)) (zB ak.out)) : aU ≠ ac)); have n19_ := Aside0.mk ((by rw [hg]; exact Nat.ne_of_lt (blk_lt (g := ad) (o := .cells #[.int .i64 ah, .slice am ae.length an, .slice aq af.length ar, .slice az ai.length aA] 26 (0, 0)) (zB ap.out)) : ad ≠ aU)); have n20_ := Aside0.mk ((by rw [hg]; exact Nat.ne_of_gt (blk_lt (g := ad) (o := .cells #[.int .i64 ah, .slice am ae.length an, .slice aq af.length ar, .slice az ai.length aA] 26 (0, 0)) (zB ap.out)) : aU ≠ ad)); have n21_ := Aside0.mk ((by rw [hg]; exact Nat.ne_of_lt (blk_lt (g := ab) (o := .cells #[.int .i64 av, u484001, u484002, u484003] 26 (0, 0)) (zB aw.out)) : ab ≠ aU)); have n22_ := Aside0.mk ((by rw [hg]; exact Nat.ne_of_gt (blk_lt (g := ab) (o := .cells #[.int .i64 av, u484001, u484002, u484003] 26 (0, 0)) (zB aw.out)) : aU ≠ ab)); clear aV; clear aH; clear aI; clear aJ; clear aC; clear aD; clear aK; clear ax; clear ay; clear au; clear ak; clear ap; clear aw; clear HB; have aV := n0_; have aH := n1_; have aI := n2_; have aJ := n3_; have aC := n4_; have aD := n5_; have aK := n6_; have ax := n7_; have ay := n8_; have au := n9_; have ak := n10_; have ap := n11_; have aw := n12_; have HB := n13_; have bq := n14_; have fx := n15_; have bJ := n16_; have bB := n17_; have bL := n18_; have bC := n19_; have bM := n20_; have bD := n21_; have bN := n22_; clear n0_ n1_ n2_ n3_ n4_ n5_ n6_ n7_ n8_ n9_ n10_ n11_ n12_ n13_ n14_ n15_ n16_ n17_ n18_ n19_ n20_ n21_ n22_; clear hb hbox hg; have fy := bL.out; have fz := bB.out; have fA := bM.out; have fD := bC.out; have fE := bN.out; have fF := bD.out; obtain ⟨dY, dZ, d0, d1, d2, d3, d4, d5⟩ := bk4 bq.out; have fG := bu.out; have fH := bk.out; obtain ⟨d6, d7, d8, d9, ea, eb, ec, ed⟩ := bk4 aw.out; obtain ⟨bK, bH, dx⟩ := Kd.V_slice au.out; subst dx; obtain ⟨de, bQ, dy⟩ := Kd.V_slice ax.out; subst dy; obtain ⟨df, bR, dz⟩ := Kd.V_slice ay.out; subst dz) | (go_at_call 17; (with_reducible refine (portreeveref04_Right.calls k1 av _ _ ao _ _ al _ _ aj true _ ?side1 ?side2 ?side3 ?side4 ?side5 ?side6 fc.out).mono ?_); (case side1 => refine (Kd.V_reads' (e := 76) (base := w.heap.size) (ok := fun k_ => ((((aE k_ ∨ aF k_ ∨ aG k_) ∨ w.heap.size ≤ k_) ∧ (k_ ≠ ac ∧ (k_ ≠ ad ∧ k_ ≠ ab))) ∧ k_ ≠ aU)) (n := ao.length) (c := bQ) ?_).2.2; exact (fV ax.out (fun k_ hk => (⟨hk, hk.2⟩ : _ ∧ k_ ≠ aU)) (fun _ h_ => h_.1))); (case side2 => exact (Kd.V_reads' ax.out).2.1); (case side3 => refine (Kd.V_reads' (e := 72) (base := w.heap.size) (ok := fun k_ => ((((aE k_ ∨ aF k_ ∨ aG k_) ∨ w.heap.size ≤ k_) ∧ (k_ ≠ ac ∧ (k_ ≠ ad ∧ k_ ≠ ab))) ∧ k_ ≠ aU)) (n := al.length) (c := bR) ?_).2.2; exact (fV ay.out (fun k_ hk => (⟨hk, hk.2⟩ : _ ∧ k_ ≠ aU)) (fun _ h_ => h_.1))); (case side4 => exact (Kd.V_reads' ay.out).2.1); (case side5 => refine (Kd.V_reads' (e := 64) (base := w.heap.size) (ok := fun k_ => ((((aE k_ ∨ aF k_ ∨ aG k_) ∨ w.heap.size ≤ k_) ∧ (k_ ≠ ac ∧ (k_ ≠ ad ∧ k_ ≠ ab))) ∧ k_ ≠ aU)) (n := aj.length) (c := bH) ?_).2.2; exact (fV au.out (fun k_ hk => (⟨hk, hk.2⟩ : _ ∧ k_ ≠ aU)) (fun _ h_ => h_.1))); (case side6 => exact (Kd.V_reads' au.out).2.1); rintro e w66 ⟨rfl, hb⟩; have n0_ := Aside0.mk (Kd.V_below (fV aV.out (fun k_ hk => (⟨hk, hk.2⟩ : _ ∧ k_ ≠ aU)) (fun _ h_ => h_.1)) hb); have n1_ := Aside0.mk (Kd.V_below (fV aH.out (fun k_ hk => (⟨hk, hk.2⟩ : _ ∧ k_ ≠ aU)) (fun _ h_ => h_.1)) hb); have n2_ := Aside0.mk (Kd.V_below (fV aI.out (fun k_ hk => (⟨hk, hk.2⟩ : _ ∧ k_ ≠ aU)) (fun _ h_ => h_.1)) hb); have n3_ := Aside0.mk (Kd.V_below (fV aJ.out (fun k_ hk => (⟨hk, hk.2⟩ : _ ∧ k_ ≠ aU)) (fun _ h_ => h_.1)) hb); have n4_ := Aside0.mk (Kd.V_below (fV aC.out (fun k_ hk => (⟨hk, hk.2⟩ : _ ∧ k_ ≠ aU)) (fun _ h_ => h_.1)) hb); have n5_ := Aside0.mk (Kd.V_below (fV aD.out (fun k_ hk => (⟨hk, hk.2⟩ : _ ∧ k_ ≠ aU)) (fun _ h_ => h_.1)) hb); have n6_ := Aside0.mk (Kd.V_below (fV aK.out (fun k_ hk => (⟨hk, hk.2⟩ : _ ∧ k_ ≠ aU)) (fun _ h_ => h_.1)) hb); have n7_ := Aside0.mk (Kd.V_below (fV ax.out (fun k_ hk => (⟨hk, hk.2⟩ : _ ∧ k_ ≠ aU)) (fun _ h_ => h_.1)) hb); have n8_ := Aside0.mk (Kd.V_below (fV ay.out (fun k_ hk => (⟨hk, hk.2⟩ : _ ∧ k_ ≠ aU)) (fun _ h_ => h_.1)) hb); have n9_ := Aside0.mk (Kd.V_below (fV au.out (fun k_ hk => (⟨hk, hk.2⟩ : _ ∧ k_ ≠ aU)) (fun _ h_ => h_.1)) hb); have n10_ := Aside0.mk (blk_below (g := ac) (o := .cells #[.int .i64 ah, .slice am ae.length an, .slice aq af.length ar, .slice az ai.length aA, .string aN, .bool aT, .int .i64 aO] 59 (0, 0)) (fB bB.out ak.out) hb); have n11_ := Aside0.mk (blk_below (g := ad) (o := .cells #[.int .i64 ah, .slice am ae.length an, .slice aq af.length ar, .slice az ai.length aA] 26 (0, 0)) (fB bC.out ap.out) hb); have n12_ := Aside0.mk (blk_below (g := ab) (o := .cells #[.int .i64 av, .slice de ao.length bQ, .slice df al.length bR, .slice bK aj.length bH] 26 (0, 0)) (fB bD.out aw.out) hb); have n13_ := Aside0.mk (blk_below (g := aU) (o := .cells #[.int .i64 ah, .slice am ae.length an, .slice aq af.length ar, .slice bK aj.length bH] 26 (0, 0)) (by (with_reducible repeat (first | refine qN ?_ _ | refine qD ?_ | refine qA ?_ _)); refine blk_put (cs := #[.int .i64 ah, .slice am ae.length an, .slice aq af.length ar, .slice az ai.length aA]) ?_ 3 _ rfl; (with_reducible repeat (first | refine qN ?_ _ | refine qD ?_ | refine qA ?_ _)); refine blk_put (cs := #[.int .i64 ah, .slice am ae.length an, .slice aq af.length ar, .slice none 0 0]) ?_ 3 _ rfl; (with_reducible repeat (first | refine qN ?_ _ | refine qD ?_ | refine qA ?_ _)); refine blk_put (cs := #[.int .i64 ah, .slice am ae.length an, .slice none 0 0, .slice none 0 0]) ?_ 2 _ rfl; (with_reducible repeat (first | refine qN ?_ _ | refine qD ?_ | refine qA ?_ _)); refine blk_put (cs := #[.int .i64 ah, .slice none 0 0, .slice none 0 0, .slice none 0 0]) ?_ 1 _ rfl; (with_reducible repeat (first | refine qN ?_ _ | refine qD ?_ | refine qA ?_ _)); refine blk_put (cs := #[.int .i64 0, .slice none 0 0, .slice none 0 0, .slice none 0 0]) ?_ 0 _ rfl; (with_reducible repeat (first | refine qN ?_ _ | refine qD ?_ | refine qA ?_ _)); exact bq.out) hb); have n14_ := Aside0.mk (below_step (by repeat (first | (with_reducible first | exact HB.out | apply pA | apply pN | apply pD | refine pS ?_ aM.out | refine pS ?_ aP.out | refine pS ?_ aX.out | refine pS ?_ bJ.out) | exact HB.out)) hb); clear aV; clear aH; clear aI; clear aJ; clear aC; clear aD; clear aK; clear ax; clear ay; clear au; clear ak; clear ap; clear aw; clear bq; clear HB; have aV := n0_; have aH := n1_; have aI := n2_; have aJ := n3_; have aC := n4_; have aD := n5_; have aK := n6_; have ax := n7_; have ay := n8_; have au := n9_; have ak := n10_; have ap := n11_; have aw := n12_; have bq := n13_; have HB := n14_; clear n0_ n1_ n2_ n3_ n4_ n5_ n6_ n7_ n8_ n9_ n10_ n11_ n12_ n13_ n14_; (try clear hb); (try clear hb2); (try clear hk); (try clear hi); obtain ⟨ee, ef, eg, eh, ei, ej, ek, el⟩ := bk4 aw.out; obtain ⟨em, en, eo, ep, eq, er, es, et⟩ := bk4 bq.out) | (go_at_call 18; (with_reducible refine (portreeveref04_Same.calls k1 av _ _ ao _ _ al _ _ aj ah _ _ ae _ _ af _ _ aj true _ ?side1 ?side2 ?side3 ?side4 ?side5 ?side6 ?side7 ?side8 ?side9 ?side10 ?side11 ?side12 bS.out).mono ?_); (case side1 => repeat (first | exact (Kd.V_reads' ax.out).2.2 | (with_reducible refine Kd.C_alloc ?_ _) | (with_reducible refine Kd.C_drewN ?_ _) | (with_reducible refine Kd.C_drew ?_))); (case side2 => exact (Kd.V_reads' ax.out).2.1); (case side3 => repeat (first | exact (Kd.V_reads' ay.out).2.2 | (with_reducible refine Kd.C_alloc ?_ _) | (with_reducible refine Kd.C_drewN ?_ _) | (with_reducible refine Kd.C_drew ?_))); (case side4 => exact (Kd.V_reads' ay.out).2.1); (case side5 => repeat (first | exact (Kd.V_reads' au.out).2.2 | (with_reducible refine Kd.C_alloc ?_ _) | (with_reducible refine Kd.C_drewN ?_ _) | (with_reducible refine Kd.C_drew ?_))); (case side6 => exact (Kd.V_reads' au.out).2.1); (case side7 => repeat (first | exact (Kd.V_reads' aC.out).2.2 | (with_reducible refine Kd.C_alloc ?_ _) | (with_reducible refine Kd.C_drewN ?_ _) | (with_reducible refine Kd.C_drew ?_))); (case side8 => exact (Kd.V_reads' aC.out).2.1); (case side9 => repeat (first | exact (Kd.V_reads' aD.out).2.2 | (with_reducible refine Kd.C_alloc ?_ _) | (with_reducible refine Kd.C_drewN ?_ _) | (with_reducible refine Kd.C_drew ?_))); (case side10 => exact (Kd.V_reads' aD.out).2.1); (case side11 => repeat (first | exact (Kd.V_reads' au.out).2.2 | (with_reducible refine Kd.C_alloc ?_ _) | (with_reducible refine Kd.C_drewN ?_ _) | (with_reducible refine Kd.C_drew ?_))); (case side12 => exact (Kd.V_reads' au.out).2.1); rintro e w69 ⟨rfl, hb⟩; have n0_ := Aside0.mk (Kd.V_below (zV aV.out) hb); have n1_ := Aside0.mk (Kd.V_below (zV aH.out) hb); have n2_ := Aside0.mk (Kd.V_below (zV aI.out) hb); have n3_ := Aside0.mk (Kd.V_below (zV aJ.out) hb); have n4_ := Aside0.mk (Kd.V_below (zV aC.out) hb); have n5_ := Aside0.mk (Kd.V_below (zV aD.out) hb); have n6_ := Aside0.mk (Kd.V_below (zV aK.out) hb); have n7_ := Aside0.mk (Kd.V_below (zV ax.out) hb); have n8_ := Aside0.mk (Kd.V_below (zV ay.out) hb); have n9_ := Aside0.mk (Kd.V_below (zV au.out) hb); have n10_ := Aside0.mk (blk_below (g := ac) (o := .cells #[.int .i64 ah, .slice am ae.length an, .slice aq af.length ar, .slice az ai.length aA, .string aN, .bool aT, .int .i64 aO] 59 (0, 0)) (zB ak.out) hb); have n11_ := Aside0.mk (blk_below (g := ad) (o := .cells #[.int .i64 ah, .slice am ae.length an, .slice aq af.length ar, .slice az ai.length aA] 26 (0, 0)) (zB ap.out) hb); have n12_ := Aside0.mk (blk_below (g := ab) (o := .cells #[.int .i64 av, .slice de ao.length bQ, .slice df al.length bR, .slice bK aj.length bH] 26 (0, 0)) (zB aw.out) hb); have n13_ := Aside0.mk (blk_below (g := aU) (o := .cells #[.int .i64 ah, .slice am ae.length an, .slice aq af.length ar, .slice bK aj.length bH] 26 (0, 0)) (zB bq.out) hb); have n14_ := Aside0.mk (below_step (by repeat (first | (with_reducible first | exact HB.out | apply pA | apply pN | apply pD | refine pS ?_ aM.out | refine pS ?_ aP.out | refine pS ?_ aX.out | refine pS ?_ bJ.out) | exact HB.out)) hb); clear aV; clear aH; clear aI; clear aJ; clear aC; clear aD; clear aK; clear ax; clear ay; clear au; clear ak; clear ap; clear aw; clear bq; clear HB; have aV := n0_; have aH := n1_; have aI := n2_; have aJ := n3_; have aC := n4_; have aD := n5_; have aK := n6_; have ax := n7_; have ay := n8_; have au := n9_; have ak := n10_; have ap := n11_; have aw := n12_; have bq := n13_; have HB := n14_; clear n0_ n1_ n2_ n3_ n4_ n5_ n6_ n7_ n8_ n9_ n10_ n11_ n12_ n13_ n14_; (try clear hb); (try clear hb2); (try clear hk); (try clear hi)))
        go_ret
        exact ⟨by first | rfl | (simp [errW_none, errW_some] <;> rfl) | (simp [*, errW_none, errW_some] <;> rfl), by repeat (first | (with_reducible first | exact HB.out | apply pA | apply pN | apply pD | refine pS ?_ aM.out | refine pS ?_ aP.out | refine pS ?_ aX.out | refine pS ?_ bJ.out) | exact HB.out)⟩
       ·replace c51 := Bool.eq_false_iff.mpr c51
        subst c51
        have H1 : (some false) = some r := by rw [if_neg (show ¬ (false = true) by decide)] at H; exact H
        clear H
        have H := H1
        clear H1
        exact absurd ((Option.some.inj H).trans hlaw_.out) (by decide)
      ·replace c49 := Bool.eq_false_iff.mpr c49
       subst c49
       have H1 : (some false) = some r := by rw [if_neg (show ¬ (false = true) by decide)] at H; exact H
       clear H
       have H := H1
       clear H1
       exact absurd ((Option.some.inj H).trans hlaw_.out) (by decide)
     ·replace c47 := Bool.eq_false_iff.mpr c47
      subst c47
      have H1 : (some false) = some r := by rw [if_neg (show ¬ (false = true) by decide)] at H; exact H
      clear H
      have H := H1
      clear H1
      exact absurd ((Option.some.inj H).trans hlaw_.out) (by decide)
 ·replace c4 := Bool.eq_false_iff.mpr c4
  subst c4
  have H1 : (some bi) = some r := by rw [if_neg (show ¬ (false = true) by decide)] at H; exact H
  clear H
  have H := H1
  clear H1
  clear hlaw_
  obtain rfl := Option.some.inj H
  go_enter Try.func8, Try.ntmps8
  go_wp2_with (first | ((with_reducible refine gate_dst (N := 1) rfl ?_); (try (refine gate_guard (by rfl) ?_; dsimp only)); refine box_event ?hg (N := 1) ?hd (cs := #[.int .i64 ah, .slice am ae.length an, .slice aq af.length ar, .slice az ai.length aA, .string aN, .bool aT, .int .i64 aO]) (t := 59) ?hr ?_; (case hd => rfl); (case hg => rfl); (case hr => first | (go_simp; done) | (go_simp; rfl)); intro ac hg w70 hbox hb; have n0_ := Aside0.mk (Kd.V_below (Kd.V_elderB (zV aQ.out) ac (Nat.le_of_eq hg.symm)) hb); have n1_ := Aside0.mk (Kd.V_below (Kd.V_elderB (zV aR.out) ac (Nat.le_of_eq hg.symm)) hb); have n2_ := Aside0.mk (Kd.V_below (Kd.V_elderB (zV aS.out) ac (Nat.le_of_eq hg.symm)) hb); have n3_ := Aside0.mk (below_step (zH HB.out) hb); have n4_ := Aside0.mk (hbox); have n5_ := Aside0.mk ((by rw [hg]; exact (below_size (zH HB.out)) : w.heap.size ≤ ac)); have n6_ := Aside0.mk ((by rw [hg]; exact (below_size (zH HB.out)) : w.heap.size ≤ ac)); clear aQ; clear aR; clear aS; clear HB; have aQ := n0_; have aR := n1_; have aS := n2_; have HB := n3_; have ak := n4_; have dg := n5_; have aM := n6_; clear n0_ n1_ n2_ n3_ n4_ n5_ n6_; clear hb hbox hg; obtain ⟨eu, ev, ew, ex, ey, ez, eA, eB, eC, eD, eE, eF, eG, eH⟩ := bk7 ak.out) | ((with_reducible refine gate_dst (N := 3) rfl ?_); (try (refine gate_guard (by rfl) ?_; dsimp only)); refine box_event ?hg (N := 3) ?hd (cs := #[.int .i64 0, .slice none 0 0, .slice none 0 0, .slice none 0 0]) (t := 26) ?hr ?_; (case hd => rfl); (case hg => rfl); (case hr => first | (go_simp; done) | (go_simp; rfl)); intro ad hg w72 hbox hb; have n0_ := Aside0.mk (Kd.V_below (Kd.V_elderB (zV aQ.out) ad (Nat.le_of_eq hg.symm)) hb); have n1_ := Aside0.mk (Kd.V_below (Kd.V_elderB (zV aR.out) ad (Nat.le_of_eq hg.symm)) hb); have n2_ := Aside0.mk (Kd.V_below (Kd.V_elderB (zV aS.out) ad (Nat.le_of_eq hg.symm)) hb); have n3_ := Aside0.mk (blk_below (g := ac) (o := .cells #[.int .i64 ah, .slice am ae.length an, .slice aq af.length ar, .slice az ai.length aA, .string aN, .bool aT, .int .i64 aO] 59 (0, 0)) (zB ak.out) hb); have n4_ := Aside0.mk (below_step (by repeat (first | (with_reducible first | exact HB.out | apply pA | apply pN | apply pD | refine pS ?_ aM.out) | exact HB.out)) hb); have n5_ := Aside0.mk (hbox); have n6_ := Aside0.mk ((by rw [hg]; exact (below_size (by repeat (first | (with_reducible first | exact HB.out | apply pA | apply pN | apply pD | refine pS ?_ aM.out) | exact HB.out))) : w.heap.size ≤ ad)); have n7_ := Aside0.mk ((by rw [hg]; exact (below_size (by repeat (first | (with_reducible first | exact HB.out | apply pA | apply pN | apply pD | refine pS ?_ aM.out) | exact HB.out))) : w.heap.size ≤ ad)); have n8_ := Aside0.mk ((by rw [hg]; exact Nat.ne_of_lt (blk_lt (g := ac) (o := .cells #[.int .i64 ah, .slice am ae.length an, .slice aq af.length ar, .slice az ai.length aA, .string aN, .bool aT, .int .i64 aO] 59 (0, 0)) (zB ak.out)) : ac ≠ ad)); have n9_ := Aside0.mk ((by rw [hg]; exact Nat.ne_of_gt (blk_lt (g := ac) (o := .cells #[.int .i64 ah, .slice am ae.length an, .slice aq af.length ar, .slice az ai.length aA, .string aN, .bool aT, .int .i64 aO] 59 (0, 0)) (zB ak.out)) : ad ≠ ac)); clear aQ; clear aR; clear aS; clear ak; clear HB; have aQ := n0_; have aR := n1_; have aS := n2_; have ak := n3_; have HB := n4_; have ap := n5_; have dh := n6_; have aP := n7_; have bj := n8_; have bp := n9_; clear n0_ n1_ n2_ n3_ n4_ n5_ n6_ n7_ n8_ n9_; clear hb hbox hg; have fI := bp.out; have fJ := bj.out; obtain ⟨eI, eJ, eK, eL, eM, eN, eO, eP⟩ := bk4 ap.out; obtain ⟨eQ, eR, eS, eT, eU, eV, eW, eX, eY, eZ, e0, e1, e2, e3⟩ := bk7 ak.out) | ((with_reducible refine gate_callee (f := 9) rfl ?_); refine goesL_ (some 23) rfl rfl Try.func9 (by kernel_rfl) rfl #[] rfl (by (try simp only [List.map_toArray, List.map_cons, List.map_nil]); first | done | rfl | (simp only [List.length_drop, List.length_take]; rfl)) ?_; (with_reducible refine (portreevelaw16_shown.calls k  bi _ A2.out).mono ?_); rintro e w76 ⟨rfl, hb⟩; refine ⟨_, rfl, ?_⟩; have n0_ := Aside0.mk (Kd.V_below (fV aQ.out (fun k_ hk => (⟨hk, hk.2⟩ : _ ∧ k_ ≠ ad)) (fun _ h_ => h_.1)) hb); have n1_ := Aside0.mk (Kd.V_below (fV aR.out (fun k_ hk => (⟨hk, hk.2⟩ : _ ∧ k_ ≠ ad)) (fun _ h_ => h_.1)) hb); have n2_ := Aside0.mk (Kd.V_below (fV aS.out (fun k_ hk => (⟨hk, hk.2⟩ : _ ∧ k_ ≠ ad)) (fun _ h_ => h_.1)) hb); have n3_ := Aside0.mk (blk_below (g := ac) (o := .cells #[.int .i64 ah, .slice am ae.length an, .slice aq af.length ar, .slice az ai.length aA, .string aN, .bool aT, .int .i64 aO] 59 (0, 0)) (fB bj.out ak.out) hb); have n4_ := Aside0.mk (blk_below (g := ad) (o := .cells #[.int .i64 ah, .slice am ae.length an, .slice aq af.length ar, .slice az ai.length aA] 26 (0, 0)) (by (with_reducible repeat (first | refine qN ?_ _ | refine qD ?_ | refine qA ?_ _)); refine blk_put (cs := #[.int .i64 ah, .slice am ae.length an, .slice aq af.length ar, .slice none 0 0]) ?_ 3 _ rfl; (with_reducible repeat (first | refine qN ?_ _ | refine qD ?_ | refine qA ?_ _)); refine blk_put (cs := #[.int .i64 ah, .slice am ae.length an, .slice none 0 0, .slice none 0 0]) ?_ 2 _ rfl; (with_reducible repeat (first | refine qN ?_ _ | refine qD ?_ | refine qA ?_ _)); refine blk_put (cs := #[.int .i64 ah, .slice none 0 0, .slice none 0 0, .slice none 0 0]) ?_ 1 _ rfl; (with_reducible repeat (first | refine qN ?_ _ | refine qD ?_ | refine qA ?_ _)); refine blk_put (cs := #[.int .i64 0, .slice none 0 0, .slice none 0 0, .slice none 0 0]) ?_ 0 _ rfl; (with_reducible repeat (first | refine qN ?_ _ | refine qD ?_ | refine qA ?_ _)); exact ap.out) hb); have n5_ := Aside0.mk (below_step (by repeat (first | (with_reducible first | exact HB.out | apply pA | apply pN | apply pD | refine pS ?_ aM.out | refine pS ?_ aP.out) | exact HB.out)) hb); clear aQ; clear aR; clear aS; clear ak; clear ap; clear HB; have aQ := n0_; have aR := n1_; have aS := n2_; have ak := n3_; have ap := n4_; have HB := n5_; clear n0_ n1_ n2_ n3_ n4_ n5_; (try clear hb); (try clear hb2); (try clear hk); (try clear hi); obtain ⟨e4, e5, e6, e7, e8, e9, fa, fb⟩ := bk4 ap.out) | ((with_reducible refine gate_callee (f := 10) rfl ?_); refine goesL_ (some 27) rfl rfl Try.func10 (by kernel_rfl) rfl #[.agg #[.int .i64 ah, .slice am ae.length an, .slice aq af.length ar, .slice az ai.length aA], .string aN, .int .i64 aO] rfl (by (try simp only [List.map_toArray, List.map_cons, List.map_nil]); first | done | rfl | (simp only [List.length_drop, List.length_take]; rfl)) ?_; (with_reducible refine (portreevelaw16_may.calls k ah _ _ ae _ _ af _ _ ai aN aO false _ ?side1 ?side2 ?side3 ?side4 ?side5 ?side6 A3.out).mono ?_); (case side1 => repeat (first | exact (Kd.V_reads' aQ.out).2.2 | (with_reducible refine Kd.C_alloc ?_ _) | (with_reducible refine Kd.C_drewN ?_ _) | (with_reducible refine Kd.C_drew ?_))); (case side2 => exact (Kd.V_reads' aQ.out).2.1); (case side3 => repeat (first | exact (Kd.V_reads' aR.out).2.2 | (with_reducible refine Kd.C_alloc ?_ _) | (with_reducible refine Kd.C_drewN ?_ _) | (with_reducible refine Kd.C_drew ?_))); (case side4 => exact (Kd.V_reads' aR.out).2.1); (case side5 => repeat (first | exact (Kd.V_reads' aS.out).2.2 | (with_reducible refine Kd.C_alloc ?_ _) | (with_reducible refine Kd.C_drewN ?_ _) | (with_reducible refine Kd.C_drew ?_))); (case side6 => exact (Kd.V_reads' aS.out).2.1); rintro e w78 ⟨rfl, hb⟩; refine ⟨_, rfl, ?_⟩; have n0_ := Aside0.mk (Kd.V_below (zV aQ.out) hb); have n1_ := Aside0.mk (Kd.V_below (zV aR.out) hb); have n2_ := Aside0.mk (Kd.V_below (zV aS.out) hb); have n3_ := Aside0.mk (blk_below (g := ac) (o := .cells #[.int .i64 ah, .slice am ae.length an, .slice aq af.length ar, .slice az ai.length aA, .string aN, .bool aT, .int .i64 aO] 59 (0, 0)) (zB ak.out) hb); have n4_ := Aside0.mk (blk_below (g := ad) (o := .cells #[.int .i64 ah, .slice am ae.length an, .slice aq af.length ar, .slice az ai.length aA] 26 (0, 0)) (zB ap.out) hb); have n5_ := Aside0.mk (below_step (by repeat (first | (with_reducible first | exact HB.out | apply pA | apply pN | apply pD | refine pS ?_ aM.out | refine pS ?_ aP.out) | exact HB.out)) hb); clear aQ; clear aR; clear aS; clear ak; clear ap; clear HB; have aQ := n0_; have aR := n1_; have aS := n2_; have ak := n3_; have ap := n4_; have HB := n5_; clear n0_ n1_ n2_ n3_ n4_ n5_; (try clear hb); (try clear hb2); (try clear hk); (try clear hi)))
  go_ret
  exact ⟨by first | rfl | (simp [errW_none, errW_some] <;> rfl) | (simp [*, errW_none, errW_some] <;> rfl), by repeat (first | (with_reducible first | exact HB.out | apply pA | apply pN | apply pD | refine pS ?_ aM.out | refine pS ?_ aP.out) | exact HB.out)⟩

end Go.Proofs.Ytocjadhpaecpaaa.Q

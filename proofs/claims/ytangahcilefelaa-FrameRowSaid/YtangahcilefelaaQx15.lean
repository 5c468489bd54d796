-- written by this session's own program (wip/tools/myprint.py), over the kit's print
import Derived.Test.YtangahcilefelaaQx0
import Derived.Test.YtangahcilefelaaQx9
import Derived.Test.YtangahcilefelaaQx14
namespace Go.Proofs.Ytangahcilefelaa.Q
open Go.RowKit Go.Proofs.YtangahcilefelaaW.PrintWords Go.Proofs.YtangahcilefelaaW.PrintLast Go.Proofs.YtangahcilefelaaW.PrintMore
open Go.Proofs.YtangahcilefelaaV
attribute [local go_sem] max2_int min2_int max_two min_two max_three min_three max_four min_four   -- for this text's walks alone
set_option linter.unusedVariables false
set_option linter.unusedSimpArgs false

/-! ### frame_Take: function 15 -/
def frame_Take.f (k : Nat) (l0_0 : List Int) (a0_1 : Bool) (a1 : Int) : Option (List Int × Bool × Int × List Int × Bool) := (stuff_Feed.f k l0_0 a0_1 a1).bind fun bt275 => ((frame_Read.f k bt275.2.2.1).bind fun bt284 => (if bt275.2.2.2 = true then (some (bt275.1, bt275.2.1, bt284.1, bt284.2.1, (bt284.2.2 == 0))) else (some (bt275.1, bt275.2.1, bt284.1, bt284.2.1, false))))
theorem frame_Take.mono : ∀ a0 a1 a2 k, LeO (frame_Take.f k a0 a1 a2) (frame_Take.f (k + 1) a0 a1 a2) := by
 intro a0 a1 a2 k
 unfold frame_Take.f
 repeat' first
   | (with_reducible exact frame_Read.mono _ _)
   | (with_reducible exact stuff_Feed.mono _ _ _ _)
   | (with_reducible exact LeO.refl _)
   | (with_reducible exact LeO.none _)
   | (with_reducible refine LeO.ite ?_ ?_)
   | (with_reducible refine LeO.bind ?_ (fun _ => ?_))
   | exact frame_Read.mono _ _
   | exact stuff_Feed.mono _ _ _ _
   | exact LeO.none _
   | refine LeO.ite ?_ ?_
   | refine LeO.bind ?_ (fun _ => ?_)
def frame_Take.T3 : Bool × List (List Nat × List Nat) := (true, [([], []), ([], []), ([], []), ([2], [2]), ([3], [3]), ([4, 3], [3, 4]), ([3, 5], [3, 5]), ([0, 3, 0], [0]), ([1, 7, 0, 1, 7], [1]), ([6, 8, 0, 1, 2, 3, 4, 5, 6, 7, 8], [6])])
def frame_Take.B3 : List Nat := [0, 0, 0, 4, 12, 28, 60, 13, 143, 511]
theorem frame_Take.tab3 : rtab .any (opsOf Try.f15 3) = frame_Take.T3 := by kernel_rfl
theorem frame_Take.bits3 : waitsOk frame_Take.T3.2 frame_Take.B3 = true := by kernel_rfl
set_option maxHeartbeats 8000000 in
set_option maxRecDepth 100000 in
theorem frame_Take.calls (k : Nat) (A0_0 : Option Addr) (c0_0 : Nat) (l0_0 : List Int) (a0_1 : Bool) (a1 : Int) (r1 : List Int) (r2 : Bool) (r3 : Int) (r4 : List Int) (r5 : Bool) (w : World) (hr0_0 : Kd.C (Kd.int .u8) w A0_0 l0_0.length l0_0) (hc0_0 : l0_0.length ≤ c0_0) (h : frame_Take.f k l0_0 a0_1 a1 = some (r1, r2, r3, r4, r5)) :
  Calls Try.prog 15 #[.agg #[.slice A0_0 l0_0.length c0_0, .bool a0_1], .int .u8 a1] w fun e w' => ∃ v0_ v3_ : Value, e = .returned (.tuple #[.agg #[v0_, .bool r2], .agg #[.int .u16 r3, v3_], .bool r5]) ∧ Kd.R (Kd.int .u8) 5 w' w.heap.size (fun k_ => (w.heap.size ≤ k_)) v0_ r1 ∧ Kd.V (Kd.int .u8) 5 w' w.heap.size (fun k_ => (w.heap.size ≤ k_) ∧ some k_ ≠ (v0_ : Value).ownBlock) v3_ r4 ∧ Below w.heap.size w w' := by
 have hu38 := Try.underlying38
 have hu25 := Try.underlying25
 have HR0_0 := Aside0.mk hr0_0
 have HC0_0 := Aside0.mk hc0_0
 clear hr0_0 hc0_0
 have HB := Aside0.mk (Below.refl w.heap.size w)
 have H : ((stuff_Feed.f k l0_0 a0_1 a1).bind fun bt275 => ((frame_Read.f k bt275.2.2.1).bind fun bt284 => (if bt275.2.2.2 = true then (some (bt275.1, bt275.2.1, bt284.1, bt284.2.1, (bt284.2.2 == 0))) else (some (bt275.1, bt275.2.1, bt284.1, bt284.2.1, false))))) = some (r1, r2, r3, r4, r5) := h
 clear h
 replace H := Option.bind_eq_some_iff.mp H
 obtain ⟨⟨t275, t278, t279, t282⟩, A30, H⟩ := H
 replace H : ((frame_Read.f k t279).bind fun bt284 => (if t282 = true then (some (t275, t278, bt284.1, bt284.2.1, (bt284.2.2 == 0))) else (some (t275, t278, bt284.1, bt284.2.1, false)))) = some (r1, r2, r3, r4, r5) := H
 have A3 := Aside0.mk A30
 clear A30
 replace H := Option.bind_eq_some_iff.mp H
 obtain ⟨⟨t284, t285, t288⟩, A40, H⟩ := H
 replace H : (if t282 = true then (some (t275, t278, t284, t285, (t288 == 0))) else (some (t275, t278, t284, t285, false))) = some (r1, r2, r3, r4, r5) := H
 have A4 := Aside0.mk A40
 clear A40
 by_cases c5 : t282 = true
 ·subst c5
  have H1 : (some (t275, t278, t284, t285, (t288 == 0))) = some (r1, r2, r3, r4, r5) := by rw [if_pos rfl] at H; exact H
  clear H
  have H := H1
  clear H1
  simp only [Option.some.injEq, Prod.mk.injEq] at H
  obtain ⟨rfl, rfl, rfl, rfl, rfl⟩ := H
  go_enter Try.func15, Try.ntmps15
  try go_wp2_with (first | ((with_reducible refine gate_dst (N := 2) rfl ?_); refine box_event ?hg (N := 2) ?hd (cs := #[.slice A0_0 l0_0.length c0_0, .bool a0_1]) (t := 38) ?hr ?_; (case hd => rfl); (case hg => rfl); (case hr => first | (go_simp; done) | (go_simp; rfl)); intro gb272 hg w6 hbox hb; have n0_ := Aside0.mk (below_step (zH HB.out) hb); have n1_ := Aside0.mk (hbox); have n2_ := Aside0.mk ((by rw [hg]; exact (below_size (zH HB.out)) : w.heap.size ≤ gb272)); have n3_ := Aside0.mk ((by rw [hg]; exact (below_size (zH HB.out)) : w.heap.size ≤ gb272)); clear HB; have HB := n0_; have BK272 := n1_; have GW272 := n2_; have GE272 := n3_; clear n0_ n1_ n2_ n3_; clear hb hbox hg) | ((with_reducible refine gate_dst (N := 4) rfl ?_); refine box_event ?hg (N := 4) ?hd (cs := #[.slice none 0 0, .bool false]) (t := 38) ?hr ?_; (case hd => rfl); (case hg => rfl); (case hr => first | (go_simp; done) | (go_simp; rfl)); intro gb273 hg w7 hbox hb; have n0_ := Aside0.mk (blk_below (g := gb272) (o := .cells #[.slice A0_0 l0_0.length c0_0, .bool a0_1] 38 (0, 0)) (zB BK272.out) hb); have n1_ := Aside0.mk (below_step (by repeat (first | (with_reducible first | exact HB.out | apply pA | apply pN | apply pD | refine pS ?_ GE272.out) | exact HB.out)) hb); have n2_ := Aside0.mk (hbox); have n3_ := Aside0.mk ((by rw [hg]; exact (below_size (by repeat (first | (with_reducible first | exact HB.out | apply pA | apply pN | apply pD | refine pS ?_ GE272.out) | exact HB.out))) : w.heap.size ≤ gb273)); have n4_ := Aside0.mk ((by rw [hg]; exact (below_size (by repeat (first | (with_reducible first | exact HB.out | apply pA | apply pN | apply pD | refine pS ?_ GE272.out) | exact HB.out))) : w.heap.size ≤ gb273)); have n5_ := Aside0.mk ((by rw [hg]; exact Nat.ne_of_lt (blk_lt (g := gb272) (o := .cells #[.slice A0_0 l0_0.length c0_0, .bool a0_1] 38 (0, 0)) (zB BK272.out)) : gb272 ≠ gb273)); have n6_ := Aside0.mk ((by rw [hg]; exact Nat.ne_of_gt (blk_lt (g := gb272) (o := .cells #[.slice A0_0 l0_0.length c0_0, .bool a0_1] 38 (0, 0)) (zB BK272.out)) : gb273 ≠ gb272)); clear BK272; clear HB; have BK272 := n0_; have HB := n1_; have BK273 := n2_; have GW273 := n3_; have GE273 := n4_; have NB272_273 := n5_; have NB273_272 := n6_; clear n0_ n1_ n2_ n3_ n4_ n5_ n6_; clear hb hbox hg) | ((with_reducible refine gate_dst (N := 5) rfl ?_); refine box_event ?hg (N := 5) ?hd (cs := #[.int .u16 0, .slice none 0 0]) (t := 25) ?hr ?_; (case hd => rfl); (case hg => rfl); (case hr => first | (go_simp; done) | (go_simp; rfl)); intro gb274 hg w8 hbox hb; have n0_ := Aside0.mk (blk_below (g := gb272) (o := .cells #[.slice A0_0 l0_0.length c0_0, .bool a0_1] 38 (0, 0)) (zB BK272.out) hb); have n1_ := Aside0.mk (blk_below (g := gb273) (o := .cells #[.slice none 0 0, .bool false] 38 (0, 0)) (zB BK273.out) hb); have n2_ := Aside0.mk (below_step (by repeat (first | (with_reducible first | exact HB.out | apply pA | apply pN | apply pD | refine pS ?_ GE272.out | refine pS ?_ GE273.out) | exact HB.out)) hb); have n3_ := Aside0.mk (hbox); have n4_ := Aside0.mk ((by rw [hg]; exact (below_size (by repeat (first | (with_reducible first | exact HB.out | apply pA | apply pN | apply pD | refine pS ?_ GE272.out | refine pS ?_ GE273.out) | exact HB.out))) : w.heap.size ≤ gb274)); have n5_ := Aside0.mk ((by rw [hg]; exact (below_size (by repeat (first | (with_reducible first | exact HB.out | apply pA | apply pN | apply pD | refine pS ?_ GE272.out | refine pS ?_ GE273.out) | exact HB.out))) : w.heap.size ≤ gb274)); have n6_ := Aside0.mk ((by rw [hg]; exact Nat.ne_of_lt (blk_lt (g := gb272) (o := .cells #[.slice A0_0 l0_0.length c0_0, .bool a0_1] 38 (0, 0)) (zB BK272.out)) : gb272 ≠ gb274)); have n7_ := Aside0.mk ((by rw [hg]; exact Nat.ne_of_gt (blk_lt (g := gb272) (o := .cells #[.slice A0_0 l0_0.length c0_0, .bool a0_1] 38 (0, 0)) (zB BK272.out)) : gb274 ≠ gb272)); have n8_ := Aside0.mk ((by rw [hg]; exact Nat.ne_of_lt (blk_lt (g := gb273) (o := .cells #[.slice none 0 0, .bool false] 38 (0, 0)) (zB BK273.out)) : gb273 ≠ gb274)); have n9_ := Aside0.mk ((by rw [hg]; exact Nat.ne_of_gt (blk_lt (g := gb273) (o := .cells #[.slice none 0 0, .bool false] 38 (0, 0)) (zB BK273.out)) : gb274 ≠ gb273)); clear BK272; clear BK273; clear HB; have BK272 := n0_; have BK273 := n1_; have HB := n2_; have BK274 := n3_; have GW274 := n4_; have GE274 := n5_; have NB272_274 := n6_; have NB274_272 := n7_; have NB273_274 := n8_; have NB274_273 := n9_; clear n0_ n1_ n2_ n3_ n4_ n5_ n6_ n7_ n8_ n9_; clear hb hbox hg; have hnb9 := NB272_273.out; have hnc9 := NB273_272.out; have hnb10 := NB272_274.out; have hnc10 := NB274_272.out; obtain ⟨hcz11_0, hcz11_1, hfz11_0, hfz11_1⟩ := bk2 BK272.out) | ((with_reducible refine gate_callee (f := 27) rfl ?_); refine goesL_ (some 15) rfl rfl Try.func27 (by kernel_rfl) rfl #[.agg #[.slice A0_0 l0_0.length c0_0, .bool a0_1], .int .u8 a1] rfl (by (try simp only [List.map_toArray, List.map_cons, List.map_nil]); first | done | rfl | (simp only [List.length_drop, List.length_take]; rfl)) ?_; (with_reducible refine (stuff_Feed.calls k _ _ l0_0 a0_1 a1 t275 t278 t279 true _ ?side1 ?side2 A3.out).mono ?_); (case side1 => repeat (first | exact (Kd.C_below HR0_0.out HB.out) | (with_reducible refine Kd.C_alloc ?_ _) | (with_reducible refine Kd.C_drewN ?_ _) | (with_reducible refine Kd.C_drew ?_))); (case side2 => exact HC0_0.out); rintro e w12 ⟨v276, v280, rfl, ho0, ho1, hb⟩; refine ⟨_, rfl, ?_⟩; have n0_ := Aside0.mk (Kd.R_lower (Kd.R_newM (M := fun k_ => (w.heap.size ≤ k_)) ho0 (below_size (by repeat (first | (with_reducible first | exact HB.out | apply pA | apply pN | apply pD | refine pS ?_ GE272.out | refine pS ?_ GE273.out | refine pS ?_ GE274.out) | exact HB.out))) (fun k_ h_ => h_)) (below_size (by repeat (first | (with_reducible first | exact HB.out | apply pA | apply pN | apply pD | refine pS ?_ GE272.out | refine pS ?_ GE273.out | refine pS ?_ GE274.out) | exact HB.out)))); have n1_ := Aside0.mk (Kd.R_lower (Kd.R_newM (M := fun k_ => (w.heap.size ≤ k_)) ho1 (below_size (by repeat (first | (with_reducible first | exact HB.out | apply pA | apply pN | apply pD | refine pS ?_ GE272.out | refine pS ?_ GE273.out | refine pS ?_ GE274.out) | exact HB.out))) (fun k_ h_ => h_)) (below_size (by repeat (first | (with_reducible first | exact HB.out | apply pA | apply pN | apply pD | refine pS ?_ GE272.out | refine pS ?_ GE273.out | refine pS ?_ GE274.out) | exact HB.out)))); have n2_ := Aside0.mk (blk_below (g := gb272) (o := .cells #[.slice A0_0 l0_0.length c0_0, .bool a0_1] 38 (0, 0)) (zB BK272.out) hb); have n3_ := Aside0.mk (blk_below (g := gb273) (o := .cells #[.slice none 0 0, .bool false] 38 (0, 0)) (zB BK273.out) hb); have n4_ := Aside0.mk (blk_below (g := gb274) (o := .cells #[.int .u16 0, .slice none 0 0] 25 (0, 0)) (zB BK274.out) hb); have n5_ := Aside0.mk (below_step (by repeat (first | (with_reducible first | exact HB.out | apply pA | apply pN | apply pD | refine pS ?_ GE272.out | refine pS ?_ GE273.out | refine pS ?_ GE274.out) | exact HB.out)) hb); clear BK272; clear BK273; clear BK274; clear HB; have HO277 := n0_; have HO281 := n1_; have BK272 := n2_; have BK273 := n3_; have BK274 := n4_; have HB := n5_; clear n0_ n1_ n2_ n3_ n4_ n5_; (try clear hb); (try clear hb2); (try clear hk); (try clear hi); (try clear ho0); (try clear ho1)) | ((with_reducible refine gate_dst (N := 7) rfl ?_); refine box_event ?hg (N := 7) ?hd (cs := #[.slice none 0 0, .bool false]) (t := 38) ?hr ?_; (case hd => rfl); (case hg => rfl); (case hr => first | (go_simp; done) | (go_simp; rfl)); intro gb283 hg w13 hbox hb; have n0_ := Aside0.mk (Kd.R_below (zR HO277.out) hb); have n1_ := Aside0.mk (Kd.R_below (zR HO281.out) hb); have n2_ := Aside0.mk (blk_below (g := gb272) (o := .cells #[.slice A0_0 l0_0.length c0_0, .bool a0_1] 38 (0, 0)) (zB BK272.out) hb); have n3_ := Aside0.mk (blk_below (g := gb273) (o := .cells #[.slice none 0 0, .bool false] 38 (0, 0)) (zB BK273.out) hb); have n4_ := Aside0.mk (blk_below (g := gb274) (o := .cells #[.int .u16 0, .slice none 0 0] 25 (0, 0)) (zB BK274.out) hb); have n5_ := Aside0.mk (below_step (by repeat (first | (with_reducible first | exact HB.out | apply pA | apply pN | apply pD | refine pS ?_ GE272.out | refine pS ?_ GE273.out | refine pS ?_ GE274.out) | exact HB.out)) hb); have n6_ := Aside0.mk (hbox); have n7_ := Aside0.mk ((by rw [hg]; exact (below_size (by repeat (first | (with_reducible first | exact HB.out | apply pA | apply pN | apply pD | refine pS ?_ GE272.out | refine pS ?_ GE273.out | refine pS ?_ GE274.out) | exact HB.out))) : w.heap.size ≤ gb283)); have n8_ := Aside0.mk ((by rw [hg]; exact (below_size (by repeat (first | (with_reducible first | exact HB.out | apply pA | apply pN | apply pD | refine pS ?_ GE272.out | refine pS ?_ GE273.out | refine pS ?_ GE274.out) | exact HB.out))) : w.heap.size ≤ gb283)); have n9_ := Aside0.mk ((by rw [hg]; exact Nat.ne_of_lt (blk_lt (g := gb272) (o := .cells #[.slice A0_0 l0_0.length c0_0, .bool a0_1] 38 (0, 0)) (zB BK272.out)) : gb272 ≠ gb283)); have n10_ := Aside0.mk ((by rw [hg]; exact Nat.ne_of_gt (blk_lt (g := gb272) (o := .cells #[.slice A0_0 l0_0.length c0_0, .bool a0_1] 38 (0, 0)) (zB BK272.out)) : gb283 ≠ gb272)); have n11_ := Aside0.mk ((by rw [hg]; exact Nat.ne_of_lt (blk_lt (g := gb273) (o := .cells #[.slice none 0 0, .bool false] 38 (0, 0)) (zB BK273.out)) : gb273 ≠ gb283)); have n12_ := Aside0.mk ((by rw [hg]; exact Nat.ne_of_gt (blk_lt (g := gb273) (o := .cells #[.slice none 0 0, .bool false] 38 (0, 0)) (zB BK273.out)) : gb283 ≠ gb273)); have n13_ := Aside0.mk ((by rw [hg]; exact Nat.ne_of_lt (blk_lt (g := gb274) (o := .cells #[.int .u16 0, .slice none 0 0] 25 (0, 0)) (zB BK274.out)) : gb274 ≠ gb283)); have n14_ := Aside0.mk ((by rw [hg]; exact Nat.ne_of_gt (blk_lt (g := gb274) (o := .cells #[.int .u16 0, .slice none 0 0] 25 (0, 0)) (zB BK274.out)) : gb283 ≠ gb274)); clear HO277; clear HO281; clear BK272; clear BK273; clear BK274; clear HB; have HO277 := n0_; have HO281 := n1_; have BK272 := n2_; have BK273 := n3_; have BK274 := n4_; have HB := n5_; have BK283 := n6_; have GW283 := n7_; have GE283 := n8_; have NB272_283 := n9_; have NB283_272 := n10_; have NB273_283 := n11_; have NB283_273 := n12_; have NB274_283 := n13_; have NB283_274 := n14_; clear n0_ n1_ n2_ n3_ n4_ n5_ n6_ n7_ n8_ n9_ n10_ n11_ n12_ n13_ n14_; clear hb hbox hg; obtain ⟨Ao14, co14, eo14⟩ := Kd.R_slice HO277.out; subst eo14; have hnb15 := NB283_272.out; have hnc15 := NB272_283.out; have hnb16 := NB283_273.out; have hnc16 := NB273_283.out; have hnb17 := NB283_274.out; have hnc17 := NB274_283.out; obtain ⟨hcz18_0, hcz18_1, hfz18_0, hfz18_1⟩ := bk2 BK283.out; obtain ⟨Ao19, co19, eo19⟩ := Kd.R_slice HO281.out; subst eo19) | ((with_reducible refine gate_callee (f := 11) rfl ?_); refine goesL_ (some 21) rfl rfl Try.func11 (by kernel_rfl) rfl #[.slice Ao19 t279.length co19] rfl (by (try simp only [List.map_toArray, List.map_cons, List.map_nil]); first | done | rfl | (simp only [List.length_drop, List.length_take]; rfl)) ?_; (with_reducible refine (frame_Read.calls k _ _ t279 t284 t285 t288 _ ?side1 ?side2 A4.out).mono ?_); (case side1 => refine (Kd.R_reads' (e := 5) (base := w.heap.size) (ok := fun k_ => ((w.heap.size ≤ k_) ∧ some k_ ≠ (.slice Ao14 t275.length co14 : Value).ownBlock)) (n := t279.length) (c := co19) ?_).2.2; exact (zR ((Kd.R_mono (Kd.R_far (p := ⟨gb283, 1, none⟩) (Kd.R_far (p := ⟨gb283, 0, none⟩) (Kd.R_types HO281.out BK283.out (by decide)) (fun _ hk => hk.2) (.slice Ao14 t275.length co14)) (fun _ hk => hk.2) (.bool t278)) (fun _ h_ => h_.1))))); (case side2 => exact (Kd.R_reads' HO281.out).2.1); rintro e w20 ⟨v286, rfl, ho0, hb⟩; refine ⟨_, rfl, ?_⟩; have n0_ := Aside0.mk (Kd.R_below (zR ((Kd.R_mono (Kd.R_far (p := ⟨gb283, 1, none⟩) (Kd.R_far (p := ⟨gb283, 0, none⟩) (Kd.R_types HO277.out BK283.out (by decide)) (fun _ hk => hk.2) (.slice Ao14 t275.length co14)) (fun _ hk => hk.2) (.bool t278)) (fun _ h_ => h_.1)))) hb); have n1_ := Aside0.mk (Kd.R_below (zR ((Kd.R_mono (Kd.R_far (p := ⟨gb283, 1, none⟩) (Kd.R_far (p := ⟨gb283, 0, none⟩) (Kd.R_types HO281.out BK283.out (by decide)) (fun _ hk => hk.2) (.slice Ao14 t275.length co14)) (fun _ hk => hk.2) (.bool t278)) (fun _ h_ => h_.1)))) hb); have n2_ := Aside0.mk (Kd.V_lower (Kd.V_mono (ok' := fun k_ => (w.heap.size ≤ k_) ∧ some k_ ≠ (.slice Ao14 t275.length co14 : Value).ownBlock ∧ some k_ ≠ (.slice Ao19 t279.length co19 : Value).ownBlock ∧ k_ ≠ gb272 ∧ k_ ≠ gb273 ∧ k_ ≠ gb274 ∧ k_ ≠ gb283) ho0 (fun k_ hk_ => ⟨(Nat.le_trans (below_size (by repeat (first | (with_reducible first | exact HB.out | apply pA | apply pN | apply pD | refine pS ?_ GE272.out | refine pS ?_ GE273.out | refine pS ?_ GE274.out | refine pS ?_ GE283.out) | exact HB.out))) hk_), (Kd.fresh' (Kd.R_lt (zR ((Kd.R_mono (Kd.R_far (p := ⟨gb283, 1, none⟩) (Kd.R_far (p := ⟨gb283, 0, none⟩) (Kd.R_types HO277.out BK283.out (by decide)) (fun _ hk => hk.2) (.slice Ao14 t275.length co14)) (fun _ hk => hk.2) (.bool t278)) (fun _ h_ => h_.1))))) k_ hk_), (Kd.fresh' (Kd.R_lt (zR ((Kd.R_mono (Kd.R_far (p := ⟨gb283, 1, none⟩) (Kd.R_far (p := ⟨gb283, 0, none⟩) (Kd.R_types HO281.out BK283.out (by decide)) (fun _ hk => hk.2) (.slice Ao14 t275.length co14)) (fun _ hk => hk.2) (.bool t278)) (fun _ h_ => h_.1))))) k_ hk_), (Kd.freshB (g := gb272) (o := .cells #[.slice A0_0 l0_0.length c0_0, .bool a0_1] 38 (0, 0)) (by (with_reducible repeat (first | refine qN ?_ _ | refine qD ?_ | refine qA ?_ _)); refine blk_far ?_ NB272_283.out _; (with_reducible repeat (first | refine qN ?_ _ | refine qD ?_ | refine qA ?_ _)); refine blk_far ?_ NB272_283.out _; (with_reducible repeat (first | refine qN ?_ _ | refine qD ?_ | refine qA ?_ _)); exact BK272.out) k_ hk_), (Kd.freshB (g := gb273) (o := .cells #[.slice none 0 0, .bool false] 38 (0, 0)) (by (with_reducible repeat (first | refine qN ?_ _ | refine qD ?_ | refine qA ?_ _)); refine blk_far ?_ NB273_283.out _; (with_reducible repeat (first | refine qN ?_ _ | refine qD ?_ | refine qA ?_ _)); refine blk_far ?_ NB273_283.out _; (with_reducible repeat (first | refine qN ?_ _ | refine qD ?_ | refine qA ?_ _)); exact BK273.out) k_ hk_), (Kd.freshB (g := gb274) (o := .cells #[.int .u16 0, .slice none 0 0] 25 (0, 0)) (by (with_reducible repeat (first | refine qN ?_ _ | refine qD ?_ | refine qA ?_ _)); refine blk_far ?_ NB274_283.out _; (with_reducible repeat (first | refine qN ?_ _ | refine qD ?_ | refine qA ?_ _)); refine blk_far ?_ NB274_283.out _; (with_reducible repeat (first | refine qN ?_ _ | refine qD ?_ | refine qA ?_ _)); exact BK274.out) k_ hk_), (Kd.freshB (g := gb283) (o := .cells #[.slice Ao14 t275.length co14, .bool t278] 38 (0, 0)) (by (with_reducible repeat (first | refine qN ?_ _ | refine qD ?_ | refine qA ?_ _)); refine blk_put (cs := #[.slice Ao14 t275.length co14, .bool false]) ?_ 1 _ rfl; (with_reducible repeat (first | refine qN ?_ _ | refine qD ?_ | refine qA ?_ _)); refine blk_put (cs := #[.slice none 0 0, .bool false]) ?_ 0 _ rfl; (with_reducible repeat (first | refine qN ?_ _ | refine qD ?_ | refine qA ?_ _)); exact BK283.out) k_ hk_)⟩)) (below_size (by repeat (first | (with_reducible first | exact HB.out | apply pA | apply pN | apply pD | refine pS ?_ GE272.out | refine pS ?_ GE273.out | refine pS ?_ GE274.out | refine pS ?_ GE283.out) | exact HB.out)))); have n3_ := Aside0.mk (blk_below (g := gb272) (o := .cells #[.slice A0_0 l0_0.length c0_0, .bool a0_1] 38 (0, 0)) (by (with_reducible repeat (first | refine qN ?_ _ | refine qD ?_ | refine qA ?_ _)); refine blk_far ?_ NB272_283.out _; (with_reducible repeat (first | refine qN ?_ _ | refine qD ?_ | refine qA ?_ _)); refine blk_far ?_ NB272_283.out _; (with_reducible repeat (first | refine qN ?_ _ | refine qD ?_ | refine qA ?_ _)); exact BK272.out) hb); have n4_ := Aside0.mk (blk_below (g := gb273) (o := .cells #[.slice none 0 0, .bool false] 38 (0, 0)) (by (with_reducible repeat (first | refine qN ?_ _ | refine qD ?_ | refine qA ?_ _)); refine blk_far ?_ NB273_283.out _; (with_reducible repeat (first | refine qN ?_ _ | refine qD ?_ | refine qA ?_ _)); refine blk_far ?_ NB273_283.out _; (with_reducible repeat (first | refine qN ?_ _ | refine qD ?_ | refine qA ?_ _)); exact BK273.out) hb); have n5_ := Aside0.mk (blk_below (g := gb274) (o := .cells #[.int .u16 0, .slice none 0 0] 25 (0, 0)) (by (with_reducible repeat (first | refine qN ?_ _ | refine qD ?_ | refine qA ?_ _)); refine blk_far ?_ NB274_283.out _; (with_reducible repeat (first | refine qN ?_ _ | refine qD ?_ | refine qA ?_ _)); refine blk_far ?_ NB274_283.out _; (with_reducible repeat (first | refine qN ?_ _ | refine qD ?_ | refine qA ?_ _)); exact BK274.out) hb); have n6_ := Aside0.mk (blk_below (g := gb283) (o := .cells #[.slice Ao14 t275.length co14, .bool t278] 38 (0, 0)) (by (with_reducible repeat (first | refine qN ?_ _ | refine qD ?_ | refine qA ?_ _)); refine blk_put (cs := #[.slice Ao14 t275.length co14, .bool false]) ?_ 1 _ rfl; (with_reducible repeat (first | refine qN ?_ _ | refine qD ?_ | refine qA ?_ _)); refine blk_put (cs := #[.slice none 0 0, .bool false]) ?_ 0 _ rfl; (with_reducible repeat (first | refine qN ?_ _ | refine qD ?_ | refine qA ?_ _)); exact BK283.out) hb); have n7_ := Aside0.mk (below_step (by repeat (first | (with_reducible first | exact HB.out | apply pA | apply pN | apply pD | refine pS ?_ GE272.out | refine pS ?_ GE273.out | refine pS ?_ GE274.out | refine pS ?_ GE283.out) | exact HB.out)) hb); clear HO277; clear HO281; clear BK272; clear BK273; clear BK274; clear BK283; clear HB; have HO277 := n0_; have HO281 := n1_; have HO287 := n2_; have BK272 := n3_; have BK273 := n4_; have BK274 := n5_; have BK283 := n6_; have HB := n7_; clear n0_ n1_ n2_ n3_ n4_ n5_ n6_ n7_; (try clear hb); (try clear hb2); (try clear hk); (try clear hi); (try clear ho0)) | ((with_reducible refine gate_dst (N := 10) rfl ?_); refine box_event ?hg (N := 10) ?hd (cs := #[.int .u16 0, .slice none 0 0]) (t := 25) ?hr ?_; (case hd => rfl); (case hg => rfl); (case hr => first | (go_simp; done) | (go_simp; rfl)); intro gb289 hg w21 hbox hb; have n0_ := Aside0.mk (Kd.R_below (zR HO277.out) hb); have n1_ := Aside0.mk (Kd.R_below (zR HO281.out) hb); have n2_ := Aside0.mk (Kd.V_below (Kd.V_elderB (zV HO287.out) gb289 (Nat.le_of_eq hg.symm)) hb); have n3_ := Aside0.mk (blk_below (g := gb272) (o := .cells #[.slice A0_0 l0_0.length c0_0, .bool a0_1] 38 (0, 0)) (zB BK272.out) hb); have n4_ := Aside0.mk (blk_below (g := gb273) (o := .cells #[.slice none 0 0, .bool false] 38 (0, 0)) (zB BK273.out) hb); have n5_ := Aside0.mk (blk_below (g := gb274) (o := .cells #[.int .u16 0, .slice none 0 0] 25 (0, 0)) (zB BK274.out) hb); have n6_ := Aside0.mk (blk_below (g := gb283) (o := .cells #[.slice Ao14 t275.length co14, .bool t278] 38 (0, 0)) (zB BK283.out) hb); have n7_ := Aside0.mk (below_step (by repeat (first | (with_reducible first | exact HB.out | apply pA | apply pN | apply pD | refine pS ?_ GE272.out | refine pS ?_ GE273.out | refine pS ?_ GE274.out | refine pS ?_ GE283.out) | exact HB.out)) hb); have n8_ := Aside0.mk (hbox); have n9_ := Aside0.mk ((by rw [hg]; exact (below_size (by repeat (first | (with_reducible first | exact HB.out | apply pA | apply pN | apply pD | refine pS ?_ GE272.out | refine pS ?_ GE273.out | refine pS ?_ GE274.out | refine pS ?_ GE283.out) | exact HB.out))) : w.heap.size ≤ gb289)); have n10_ := Aside0.mk ((by rw [hg]; exact (below_size (by repeat (first | (with_reducible first | exact HB.out | apply pA | apply pN | apply pD | refine pS ?_ GE272.out | refine pS ?_ GE273.out | refine pS ?_ GE274.out | refine pS ?_ GE283.out) | exact HB.out))) : w.heap.size ≤ gb289)); have n11_ := Aside0.mk ((by rw [hg]; exact Nat.ne_of_lt (blk_lt (g := gb272) (o := .cells #[.slice A0_0 l0_0.length c0_0, .bool a0_1] 38 (0, 0)) (zB BK272.out)) : gb272 ≠ gb289)); have n12_ := Aside0.mk ((by rw [hg]; exact Nat.ne_of_gt (blk_lt (g := gb272) (o := .cells #[.slice A0_0 l0_0.length c0_0, .bool a0_1] 38 (0, 0)) (zB BK272.out)) : gb289 ≠ gb272)); have n13_ := Aside0.mk ((by rw [hg]; exact Nat.ne_of_lt (blk_lt (g := gb273) (o := .cells #[.slice none 0 0, .bool false] 38 (0, 0)) (zB BK273.out)) : gb273 ≠ gb289)); have n14_ := Aside0.mk ((by rw [hg]; exact Nat.ne_of_gt (blk_lt (g := gb273) (o := .cells #[.slice none 0 0, .bool false] 38 (0, 0)) (zB BK273.out)) : gb289 ≠ gb273)); have n15_ := Aside0.mk ((by rw [hg]; exact Nat.ne_of_lt (blk_lt (g := gb274) (o := .cells #[.int .u16 0, .slice none 0 0] 25 (0, 0)) (zB BK274.out)) : gb274 ≠ gb289)); have n16_ := Aside0.mk ((by rw [hg]; exact Nat.ne_of_gt (blk_lt (g := gb274) (o := .cells #[.int .u16 0, .slice none 0 0] 25 (0, 0)) (zB BK274.out)) : gb289 ≠ gb274)); have n17_ := Aside0.mk ((by rw [hg]; exact Nat.ne_of_lt (blk_lt (g := gb283) (o := .cells #[.slice Ao14 t275.length co14, .bool t278] 38 (0, 0)) (zB BK283.out)) : gb283 ≠ gb289)); have n18_ := Aside0.mk ((by rw [hg]; exact Nat.ne_of_gt (blk_lt (g := gb283) (o := .cells #[.slice Ao14 t275.length co14, .bool t278] 38 (0, 0)) (zB BK283.out)) : gb289 ≠ gb283)); clear HO277; clear HO281; clear HO287; clear BK272; clear BK273; clear BK274; clear BK283; clear HB; have HO277 := n0_; have HO281 := n1_; have HO287 := n2_; have BK272 := n3_; have BK273 := n4_; have BK274 := n5_; have BK283 := n6_; have HB := n7_; have BK289 := n8_; have GW289 := n9_; have GE289 := n10_; have NB272_289 := n11_; have NB289_272 := n12_; have NB273_289 := n13_; have NB289_273 := n14_; have NB274_289 := n15_; have NB289_274 := n16_; have NB283_289 := n17_; have NB289_283 := n18_; clear n0_ n1_ n2_ n3_ n4_ n5_ n6_ n7_ n8_ n9_ n10_ n11_ n12_ n13_ n14_ n15_ n16_ n17_ n18_; clear hb hbox hg; have hnb22 := NB289_272.out; have hnc22 := NB272_289.out; have hnb23 := NB289_273.out; have hnc23 := NB273_289.out; have hnb24 := NB289_274.out; have hnc24 := NB274_289.out; have hnb25 := NB289_283.out; have hnc25 := NB283_289.out; obtain ⟨hcz26_0, hcz26_1, hfz26_0, hfz26_1⟩ := bk2 BK289.out; obtain ⟨Ao27, co27, eo27⟩ := Kd.V_slice HO287.out; subst eo27))
  have n0_ : Aside0 (Kd.R (Kd.int .u8) 5 ((w21.setCell ⟨gb289, 0, none⟩ (.int .u16 t284)).setCell ⟨gb289, 1, none⟩ (.slice Ao27 t285.length co27)) w.heap.size (fun k_ => (w.heap.size ≤ k_) ∧ some k_ ≠ (.slice Ao19 t279.length co19 : Value).ownBlock) (.slice Ao14 t275.length co14) t275) := ⟨zR (Kd.R_mono (Kd.R_far (p := ⟨gb289, 1, none⟩) (Kd.R_far (p := ⟨gb289, 0, none⟩) (Kd.R_types HO277.out BK289.out (by decide)) (fun _ hk => hk.2) (.int .u16 t284)) (fun _ hk => hk.2) (.slice Ao27 t285.length co27)) (fun _ hk => ⟨hk.1.1, hk.1.2⟩))⟩
  have n1_ : Aside0 (Kd.R (Kd.int .u8) 5 ((w21.setCell ⟨gb289, 0, none⟩ (.int .u16 t284)).setCell ⟨gb289, 1, none⟩ (.slice Ao27 t285.length co27)) w.heap.size (fun k_ => (w.heap.size ≤ k_) ∧ some k_ ≠ (.slice Ao14 t275.length co14 : Value).ownBlock) (.slice Ao19 t279.length co19) t279) := ⟨zR (Kd.R_mono (Kd.R_far (p := ⟨gb289, 1, none⟩) (Kd.R_far (p := ⟨gb289, 0, none⟩) (Kd.R_types HO281.out BK289.out (by decide)) (fun _ hk => hk.2) (.int .u16 t284)) (fun _ hk => hk.2) (.slice Ao27 t285.length co27)) (fun _ hk => ⟨hk.1.1, hk.1.2⟩))⟩
  have n2_ : Aside0 (Kd.V (Kd.int .u8) 5 ((w21.setCell ⟨gb289, 0, none⟩ (.int .u16 t284)).setCell ⟨gb289, 1, none⟩ (.slice Ao27 t285.length co27)) w.heap.size (fun k_ => (w.heap.size ≤ k_) ∧ some k_ ≠ (.slice Ao14 t275.length co14 : Value).ownBlock ∧ some k_ ≠ (.slice Ao19 t279.length co19 : Value).ownBlock ∧ k_ ≠ gb272 ∧ k_ ≠ gb273 ∧ k_ ≠ gb274 ∧ k_ ≠ gb283 ∧ k_ ≠ gb289) (.slice Ao27 t285.length co27) t285) := ⟨zV (Kd.V_mono (Kd.V_far (p := ⟨gb289, 1, none⟩) (Kd.V_far (p := ⟨gb289, 0, none⟩) (Kd.V_mono HO287.out (fun k_ hk => (⟨hk, hk.2⟩ : _ ∧ k_ ≠ gb289))) (fun _ hk => hk.2) (.int .u16 t284)) (fun _ hk => hk.2) (.slice Ao27 t285.length co27)) (fun _ hk => ⟨hk.1.1.1, ⟨hk.1.1.2.1, ⟨hk.1.1.2.2.1, ⟨hk.1.1.2.2.2.1, ⟨hk.1.1.2.2.2.2.1, ⟨hk.1.1.2.2.2.2.2.1, ⟨hk.1.1.2.2.2.2.2.2, hk.1.2⟩⟩⟩⟩⟩⟩⟩))⟩
  have n3_ : Aside0 (((w21.setCell ⟨gb289, 0, none⟩ (.int .u16 t284)).setCell ⟨gb289, 1, none⟩ (.slice Ao27 t285.length co27)).heap[gb272]? = some (.cells #[.slice A0_0 l0_0.length c0_0, .bool a0_1] 38 (0, 0))) := ⟨by (with_reducible repeat (first | refine qN ?_ _ | refine qD ?_ | refine qA ?_ _)); refine blk_far ?_ NB272_289.out _; (with_reducible repeat (first | refine qN ?_ _ | refine qD ?_ | refine qA ?_ _)); refine blk_far ?_ NB272_289.out _; (with_reducible repeat (first | refine qN ?_ _ | refine qD ?_ | refine qA ?_ _)); exact BK272.out⟩
  have n4_ : Aside0 (((w21.setCell ⟨gb289, 0, none⟩ (.int .u16 t284)).setCell ⟨gb289, 1, none⟩ (.slice Ao27 t285.length co27)).heap[gb273]? = some (.cells #[.slice none 0 0, .bool false] 38 (0, 0))) := ⟨by (with_reducible repeat (first | refine qN ?_ _ | refine qD ?_ | refine qA ?_ _)); refine blk_far ?_ NB273_289.out _; (with_reducible repeat (first | refine qN ?_ _ | refine qD ?_ | refine qA ?_ _)); refine blk_far ?_ NB273_289.out _; (with_reducible repeat (first | refine qN ?_ _ | refine qD ?_ | refine qA ?_ _)); exact BK273.out⟩
  have n5_ : Aside0 (((w21.setCell ⟨gb289, 0, none⟩ (.int .u16 t284)).setCell ⟨gb289, 1, none⟩ (.slice Ao27 t285.length co27)).heap[gb274]? = some (.cells #[.int .u16 0, .slice none 0 0] 25 (0, 0))) := ⟨by (with_reducible repeat (first | refine qN ?_ _ | refine qD ?_ | refine qA ?_ _)); refine blk_far ?_ NB274_289.out _; (with_reducible repeat (first | refine qN ?_ _ | refine qD ?_ | refine qA ?_ _)); refine blk_far ?_ NB274_289.out _; (with_reducible repeat (first | refine qN ?_ _ | refine qD ?_ | refine qA ?_ _)); exact BK274.out⟩
  have n6_ : Aside0 (((w21.setCell ⟨gb289, 0, none⟩ (.int .u16 t284)).setCell ⟨gb289, 1, none⟩ (.slice Ao27 t285.length co27)).heap[gb283]? = some (.cells #[.slice Ao14 t275.length co14, .bool t278] 38 (0, 0))) := ⟨by (with_reducible repeat (first | refine qN ?_ _ | refine qD ?_ | refine qA ?_ _)); refine blk_far ?_ NB283_289.out _; (with_reducible repeat (first | refine qN ?_ _ | refine qD ?_ | refine qA ?_ _)); refine blk_far ?_ NB283_289.out _; (with_reducible repeat (first | refine qN ?_ _ | refine qD ?_ | refine qA ?_ _)); exact BK283.out⟩
  have n7_ : Aside0 (((w21.setCell ⟨gb289, 0, none⟩ (.int .u16 t284)).setCell ⟨gb289, 1, none⟩ (.slice Ao27 t285.length co27)).heap[gb289]? = some (.cells #[.int .u16 t284, .slice Ao27 t285.length co27] 25 (0, 0))) := ⟨by (with_reducible repeat (first | refine qN ?_ _ | refine qD ?_ | refine qA ?_ _)); refine blk_put (cs := #[.int .u16 t284, .slice none 0 0]) ?_ 1 _ rfl; (with_reducible repeat (first | refine qN ?_ _ | refine qD ?_ | refine qA ?_ _)); refine blk_put (cs := #[.int .u16 0, .slice none 0 0]) ?_ 0 _ rfl; (with_reducible repeat (first | refine qN ?_ _ | refine qD ?_ | refine qA ?_ _)); exact BK289.out⟩
  have n8_ : Aside0 (Below w.heap.size w ((w21.setCell ⟨gb289, 0, none⟩ (.int .u16 t284)).setCell ⟨gb289, 1, none⟩ (.slice Ao27 t285.length co27))) := ⟨by repeat (first | (with_reducible first | exact HB.out | apply pA | apply pN | apply pD | refine pS ?_ GE272.out | refine pS ?_ GE273.out | refine pS ?_ GE274.out | refine pS ?_ GE283.out | refine pS ?_ GE289.out) | exact HB.out)⟩
  (try clear HO277)
  (try clear HO281)
  (try clear HO287)
  (try clear BK272)
  (try clear BK273)
  (try clear BK274)
  (try clear BK283)
  (try clear BK289)
  (try clear HB)
  generalize ((w21.setCell ⟨gb289, 0, none⟩ (.int .u16 t284)).setCell ⟨gb289, 1, none⟩ (.slice Ao27 t285.length co27)) = w28 at n0_ n1_ n2_ n3_ n4_ n5_ n6_ n7_ n8_ ⊢
  have HO277 := n0_
  have HO281 := n1_
  have HO287 := n2_
  have BK272 := n3_
  have BK273 := n4_
  have BK274 := n5_
  have BK283 := n6_
  have BK289 := n7_
  have HB := n8_
  clear n0_ n1_ n2_ n3_ n4_ n5_ n6_ n7_ n8_
  have n0_ := Aside0.mk (Kd.R_drew HO277.out)
  have n1_ := Aside0.mk (Kd.R_drew HO281.out)
  have n2_ := Aside0.mk (Kd.V_drew HO287.out)
  have n3_ := Aside0.mk (qD BK272.out)
  have n4_ := Aside0.mk (qD BK273.out)
  have n5_ := Aside0.mk (qD BK274.out)
  have n6_ := Aside0.mk (qD BK283.out)
  have n7_ := Aside0.mk (qD BK289.out)
  have n8_ := Aside0.mk (pD HB.out)
  clear HO277
  clear HO281
  clear HO287
  clear BK272
  clear BK273
  clear BK274
  clear BK283
  clear BK289
  clear HB
  have HO277 := n0_
  have HO281 := n1_
  have HO287 := n2_
  have BK272 := n3_
  have BK273 := n4_
  have BK274 := n5_
  have BK283 := n6_
  have BK289 := n7_
  have HB := n8_
  clear n0_ n1_ n2_ n3_ n4_ n5_ n6_ n7_ n8_
  refine start_ (n := 10) (S := fun w' => w'.cell? ⟨gb283, 0, none⟩ = some (.slice Ao14 t275.length co14) ∧ w'.cell? ⟨gb283, 1, none⟩ = some (.bool t278) ∧ w'.cell? ⟨gb289, 0, none⟩ = some (.int .u16 t284) ∧ w'.cell? ⟨gb289, 1, none⟩ = some (.slice Ao27 t285.length co27)) (ds := []) #[false, false, false, false, false, false, false, false, false, false] (by kernel_rfl) rfl rfl ⟨(blk_cell BK283.out 0).trans rfl, (blk_cell BK283.out 1).trans rfl, (blk_cell BK289.out 0).trans rfl, (blk_cell BK289.out 1).trans rfl⟩ (fun hHeld => ?_); refine with_tabW frame_Take.tab3 frame_Take.bits3 (fun HT_ HW_ => ?_)
  generalize w28.drew = w29 at HO277 HO281 HO287 BK272 BK273 BK274 BK283 BK289 HB hHeld ⊢
  refine pure_ (i := 2) (N := some 26) (v := ?_) (a' := ?_) #[false, false, true, false, false, false, false, false, false, false] rfl rfl (any_of HT_.out (by kernel_rfl)) (fun _ _ _ h => h) (Or.inl ⟨by rfl, ?_⟩) ?_ ?_
  rotate_left
  ·intro w'
   go_simp
   with_reducible rfl
  rotate_left
  ·simp only [Act.put, sT, s0, s1, i64_w, i32_w]
   rfl
  refine pure_ (i := 3) (N := some 27) (v := ?_) (a' := ?_) #[false, false, true, true, false, false, false, false, false, false] rfl rfl (any_of HT_.out (by kernel_rfl)) (fun _ _ _ h => h) (Or.inl ⟨by rfl, ?_⟩) ?_ ?_
  rotate_left
  ·intro w'
   go_simp
   with_reducible rfl
  rotate_left
  ·simp only [Act.put, sT, s0, s1, i64_w, i32_w]
   rfl
  refine pure_ (i := 4) (N := some 28) (v := ?_) (a' := ?_) #[false, false, true, true, true, false, false, false, false, false] rfl rfl (any_of HT_.out (by kernel_rfl)) (fun _ _ _ h => h) (Or.inl ⟨by rfl, ?_⟩) ?_ ?_
  rotate_left
  ·intro w'
   go_simp
   with_reducible rfl
  rotate_left
  ·simp only [Act.put, sT, s0, s1, i64_w, i32_w]
   rfl
  refine pure_ (i := 5) (N := some 29) (v := ?_) (a' := ?_) #[false, false, true, true, true, true, false, false, false, false] rfl rfl (any_of HT_.out (by kernel_rfl)) (fun _ _ _ h => h) (Or.inl ⟨by rfl, ?_⟩) ?_ ?_
  rotate_left
  ·intro w'
   go_simp
   with_reducible rfl
  rotate_left
  ·simp only [Act.put, sT, s0, s1, i64_w, i32_w]
   rfl
  refine pure_ (i := 6) (N := some 30) (v := ?_) (a' := ?_) #[false, false, true, true, true, true, true, false, false, false] rfl rfl (any_of HT_.out (by kernel_rfl)) (fun _ _ _ h => h) (Or.inl ⟨by rfl, ?_⟩) ?_ ?_
  rotate_left
  ·intro w'
   go_simp
   with_reducible rfl
  rotate_left
  ·simp only [Act.put, sT, s0, s1, i64_w, i32_w]
   rfl
  refine take_ (i := 0) (N := some 24) (v := ?_) (a' := ?_) #[true, false, true, true, true, true, true, false, false, false] rfl rfl (take_ofW HT_.out HW_.out (by kernel_rfl)) (fun _ _ _ h => h) (Or.inl ⟨by rfl, ?_⟩) hHeld ?_ ?_
  rotate_left
  ·rintro w' ⟨s0, s1, s2, s3⟩
   go_simp
   with_reducible rfl
  rotate_left
  ·simp only [Act.put, sT, s0, s1, i64_w, i32_w]
   rfl
  refine take_ (i := 1) (N := some 25) (v := ?_) (a' := ?_) #[true, true, true, true, true, true, true, false, false, false] rfl rfl (take_ofW HT_.out HW_.out (by kernel_rfl)) (fun _ _ _ h => h) (Or.inl ⟨by rfl, ?_⟩) hHeld ?_ ?_
  rotate_left
  ·rintro w' ⟨s0, s1, s2, s3⟩
   go_simp
   with_reducible rfl
  rotate_left
  ·simp only [Act.put, sT, s0, s1, i64_w, i32_w]
   rfl
  refine one_ (i := 7) (N := none) #[true, true, true, true, true, true, true, true, false, false] rfl rfl (one_of HT_.out (by kernel_rfl)) (by decide) (fun K hK => ?_)
  have hs30 : w29.cell? ⟨gb273, 0, none⟩ = some (.slice none 0 0) := (blk_cell BK273.out 0).trans rfl
  have hfs30 := blk_frozen BK273.out 0
  have hns30_0 := NB272_273.out
  have hns30_2 := NB274_273.out
  have hns30_3 := NB283_273.out
  have hns30_4 := NB289_273.out
  have hms30_0 := NB273_272.out
  have hms30_2 := NB273_274.out
  have hms30_3 := NB273_283.out
  have hms30_4 := NB273_289.out
  have hs31 : w29.cell? ⟨gb273, 1, none⟩ = some (.bool false) := (blk_cell BK273.out 1).trans rfl
  have hfs31 := blk_frozen BK273.out 1
  have hns31_0 := NB272_273.out
  have hns31_2 := NB274_273.out
  have hns31_3 := NB283_273.out
  have hns31_4 := NB289_273.out
  have hms31_0 := NB273_272.out
  have hms31_2 := NB273_274.out
  have hms31_3 := NB273_283.out
  have hms31_4 := NB273_289.out
  refine skip_ (w1 := ?_) (by rfl) rfl ?_ ?_
  rotate_left
  ·go_simp
   rfl
  refine hK.out _ _ ⟨((cell_far (p := ⟨gb273, _, none⟩) NB283_273.out _).trans (((cell_far (p := ⟨gb273, _, none⟩) NB283_273.out _).trans (hHeld.1)))), ((cell_far (p := ⟨gb273, _, none⟩) NB283_273.out _).trans (((cell_far (p := ⟨gb273, _, none⟩) NB283_273.out _).trans (hHeld.2.1)))), ((cell_far (p := ⟨gb273, _, none⟩) NB289_273.out _).trans (((cell_far (p := ⟨gb273, _, none⟩) NB289_273.out _).trans (hHeld.2.2.1)))), ((cell_far (p := ⟨gb273, _, none⟩) NB289_273.out _).trans (((cell_far (p := ⟨gb273, _, none⟩) NB289_273.out _).trans (hHeld.2.2.2))))⟩ (fun hHeld => ?_)
  clear hK K
  refine one_ (i := 8) (N := none) #[true, true, true, true, true, true, true, true, true, false] rfl rfl (one_of HT_.out (by kernel_rfl)) (by decide) (fun K hK => ?_)
  have hs32 : w29.cell? ⟨gb274, 0, none⟩ = some (.int .u16 0) := (blk_cell BK274.out 0).trans rfl
  have hfs32 := blk_frozen BK274.out 0
  have hns32_0 := NB272_274.out
  have hns32_1 := NB273_274.out
  have hns32_3 := NB283_274.out
  have hns32_4 := NB289_274.out
  have hms32_0 := NB274_272.out
  have hms32_1 := NB274_273.out
  have hms32_3 := NB274_283.out
  have hms32_4 := NB274_289.out
  have hs33 : w29.cell? ⟨gb274, 1, none⟩ = some (.slice none 0 0) := (blk_cell BK274.out 1).trans rfl
  have hfs33 := blk_frozen BK274.out 1
  have hns33_0 := NB272_274.out
  have hns33_1 := NB273_274.out
  have hns33_3 := NB283_274.out
  have hns33_4 := NB289_274.out
  have hms33_0 := NB274_272.out
  have hms33_1 := NB274_273.out
  have hms33_3 := NB274_283.out
  have hms33_4 := NB274_289.out
  refine skip_ (w1 := ?_) (by rfl) rfl ?_ ?_
  rotate_left
  ·go_simp
   rfl
  refine hK.out _ _ ⟨((cell_far (p := ⟨gb274, _, none⟩) NB283_274.out _).trans (((cell_far (p := ⟨gb274, _, none⟩) NB283_274.out _).trans (hHeld.1)))), ((cell_far (p := ⟨gb274, _, none⟩) NB283_274.out _).trans (((cell_far (p := ⟨gb274, _, none⟩) NB283_274.out _).trans (hHeld.2.1)))), ((cell_far (p := ⟨gb274, _, none⟩) NB289_274.out _).trans (((cell_far (p := ⟨gb274, _, none⟩) NB289_274.out _).trans (hHeld.2.2.1)))), ((cell_far (p := ⟨gb274, _, none⟩) NB289_274.out _).trans (((cell_far (p := ⟨gb274, _, none⟩) NB289_274.out _).trans (hHeld.2.2.2))))⟩ (fun hHeld => ?_)
  clear hK K
  refine pure_ (i := 9) (N := some 6) (v := ?_) (a' := ?_) #[true, true, true, true, true, true, true, true, true, true] rfl rfl (any_of HT_.out (by kernel_rfl)) (fun _ _ _ h => h) (Or.inl ⟨by rfl, ?_⟩) ?_ ?_
  rotate_left
  ·intro w'
   go_simp
   with_reducible rfl
  rotate_left
  ·simp only [Act.put, sT, s0, s1, i64_w, i32_w]
   rfl
  refine done_ (done_of HT_.out (by kernel_rfl)) ?_
  try go_wp2
  refine bodyPost_ret (results_list (rs := [.cell 4 38, .cell 5 25, .tmp 6]) rfl (by simp) (.cell gb273 38 #[.slice Ao14 t275.length co14, .bool t278] (0, 0) _ rfl (by (with_reducible repeat (first | refine qN ?_ _ | refine qD ?_ | refine qA ?_ _)); refine blk_far ?_ NB273_274.out _; (with_reducible repeat (first | refine qN ?_ _ | refine qD ?_ | refine qA ?_ _)); refine blk_far ?_ NB273_274.out _; (with_reducible repeat (first | refine qN ?_ _ | refine qD ?_ | refine qA ?_ _)); refine blk_put (cs := #[.slice Ao14 t275.length co14, .bool false]) ?_ 1 _ rfl; (with_reducible repeat (first | refine qN ?_ _ | refine qD ?_ | refine qA ?_ _)); refine blk_put (cs := #[.slice none 0 0, .bool false]) ?_ 0 _ rfl; (with_reducible repeat (first | refine qN ?_ _ | refine qD ?_ | refine qA ?_ _)); exact BK273.out) Try.underlying38 rfl (by kernel_rfl) (.cell gb274 25 #[.int .u16 t284, .slice Ao27 t285.length co27] (0, 0) _ rfl (by (with_reducible repeat (first | refine qN ?_ _ | refine qD ?_ | refine qA ?_ _)); refine blk_put (cs := #[.int .u16 t284, .slice none 0 0]) ?_ 1 _ rfl; (with_reducible repeat (first | refine qN ?_ _ | refine qD ?_ | refine qA ?_ _)); refine blk_put (cs := #[.int .u16 0, .slice none 0 0]) ?_ 0 _ rfl; (with_reducible repeat (first | refine qN ?_ _ | refine qD ?_ | refine qA ?_ _)); refine blk_far ?_ NB274_273.out _; (with_reducible repeat (first | refine qN ?_ _ | refine qD ?_ | refine qA ?_ _)); refine blk_far ?_ NB274_273.out _; (with_reducible repeat (first | refine qN ?_ _ | refine qD ?_ | refine qA ?_ _)); exact BK274.out) Try.underlying25 rfl (by kernel_rfl) (.tmp .nil)))) rfl ?_
  exact ⟨_, _, by first | rfl | (simp [errW_none, errW_some] <;> rfl) | (simp [*, errW_none, errW_some] <;> rfl), zR (Kd.R_mono (Kd.R_far (p := ⟨gb274, 1, none⟩) (Kd.R_far (p := ⟨gb274, 0, none⟩) (Kd.R_far (p := ⟨gb273, 1, none⟩) (Kd.R_far (p := ⟨gb273, 0, none⟩) (Kd.R_types (Kd.R_types HO277.out BK273.out (by decide)) BK274.out (by decide)) (fun _ hk => hk.1.2) (.slice Ao14 t275.length co14)) (fun _ hk => hk.1.2) (.bool t278)) (fun _ hk => hk.2) (.int .u16 t284)) (fun _ hk => hk.2) (.slice Ao27 t285.length co27)) (fun _ hk => hk.1.1.1)), zV (Kd.V_mono (Kd.V_far (p := ⟨gb274, 1, none⟩) (Kd.V_far (p := ⟨gb274, 0, none⟩) (Kd.V_far (p := ⟨gb273, 1, none⟩) (Kd.V_far (p := ⟨gb273, 0, none⟩) (Kd.V_mono (Kd.V_mono HO287.out (fun k_ hk => (⟨hk, hk.2.2.2.2.1⟩ : _ ∧ k_ ≠ gb273))) (fun k_ hk => (⟨hk, hk.1.2.2.2.2.2.1⟩ : _ ∧ k_ ≠ gb274))) (fun _ hk => hk.1.2) (.slice Ao14 t275.length co14)) (fun _ hk => hk.1.2) (.bool t278)) (fun _ hk => hk.2) (.int .u16 t284)) (fun _ hk => hk.2) (.slice Ao27 t285.length co27)) (fun _ hk => ⟨hk.1.1.1, hk.1.1.2.1⟩)), by repeat (first | (with_reducible first | exact HB.out | apply pA | apply pN | apply pD | refine pS ?_ GE272.out | refine pS ?_ GE273.out | refine pS ?_ GE274.out | refine pS ?_ GE283.out | refine pS ?_ GE289.out) | exact HB.out)⟩
 ·replace c5 := Bool.eq_false_iff.mpr c5
  subst c5
  have H1 : (some (t275, t278, t284, t285, false)) = some (r1, r2, r3, r4, r5) := by rw [if_neg (show ¬ (false = true) by decide)] at H; exact H
  clear H
  have H := H1
  clear H1
  simp only [Option.some.injEq, Prod.mk.injEq] at H
  obtain ⟨rfl, rfl, rfl, rfl, rfl⟩ := H
  go_enter Try.func15, Try.ntmps15
  try go_wp2_with (first | ((with_reducible refine gate_dst (N := 2) rfl ?_); refine box_event ?hg (N := 2) ?hd (cs := #[.slice A0_0 l0_0.length c0_0, .bool a0_1]) (t := 38) ?hr ?_; (case hd => rfl); (case hg => rfl); (case hr => first | (go_simp; done) | (go_simp; rfl)); intro gb272 hg w34 hbox hb; have n0_ := Aside0.mk (below_step (zH HB.out) hb); have n1_ := Aside0.mk (hbox); have n2_ := Aside0.mk ((by rw [hg]; exact (below_size (zH HB.out)) : w.heap.size ≤ gb272)); have n3_ := Aside0.mk ((by rw [hg]; exact (below_size (zH HB.out)) : w.heap.size ≤ gb272)); clear HB; have HB := n0_; have BK272 := n1_; have GW272 := n2_; have GE272 := n3_; clear n0_ n1_ n2_ n3_; clear hb hbox hg) | ((with_reducible refine gate_dst (N := 4) rfl ?_); refine box_event ?hg (N := 4) ?hd (cs := #[.slice none 0 0, .bool false]) (t := 38) ?hr ?_; (case hd => rfl); (case hg => rfl); (case hr => first | (go_simp; done) | (go_simp; rfl)); intro gb273 hg w35 hbox hb; have n0_ := Aside0.mk (blk_below (g := gb272) (o := .cells #[.slice A0_0 l0_0.length c0_0, .bool a0_1] 38 (0, 0)) (zB BK272.out) hb); have n1_ := Aside0.mk (below_step (by repeat (first | (with_reducible first | exact HB.out | apply pA | apply pN | apply pD | refine pS ?_ GE272.out) | exact HB.out)) hb); have n2_ := Aside0.mk (hbox); have n3_ := Aside0.mk ((by rw [hg]; exact (below_size (by repeat (first | (with_reducible first | exact HB.out | apply pA | apply pN | apply pD | refine pS ?_ GE272.out) | exact HB.out))) : w.heap.size ≤ gb273)); have n4_ := Aside0.mk ((by rw [hg]; exact (below_size (by repeat (first | (with_reducible first | exact HB.out | apply pA | apply pN | apply pD | refine pS ?_ GE272.out) | exact HB.out))) : w.heap.size ≤ gb273)); have n5_ := Aside0.mk ((by rw [hg]; exact Nat.ne_of_lt (blk_lt (g := gb272) (o := .cells #[.slice A0_0 l0_0.length c0_0, .bool a0_1] 38 (0, 0)) (zB BK272.out)) : gb272 ≠ gb273)); have n6_ := Aside0.mk ((by rw [hg]; exact Nat.ne_of_gt (blk_lt (g := gb272) (o := .cells #[.slice A0_0 l0_0.length c0_0, .bool a0_1] 38 (0, 0)) (zB BK272.out)) : gb273 ≠ gb272)); clear BK272; clear HB; have BK272 := n0_; have HB := n1_; have BK273 := n2_; have GW273 := n3_; have GE273 := n4_; have NB272_273 := n5_; have NB273_272 := n6_; clear n0_ n1_ n2_ n3_ n4_ n5_ n6_; clear hb hbox hg) | ((with_reducible refine gate_dst (N := 5) rfl ?_); refine box_event ?hg (N := 5) ?hd (cs := #[.int .u16 0, .slice none 0 0]) (t := 25) ?hr ?_; (case hd => rfl); (case hg => rfl); (case hr => first | (go_simp; done) | (go_simp; rfl)); intro gb274 hg w36 hbox hb; have n0_ := Aside0.mk (blk_below (g := gb272) (o := .cells #[.slice A0_0 l0_0.length c0_0, .bool a0_1] 38 (0, 0)) (zB BK272.out) hb); have n1_ := Aside0.mk (blk_below (g := gb273) (o := .cells #[.slice none 0 0, .bool false] 38 (0, 0)) (zB BK273.out) hb); have n2_ := Aside0.mk (below_step (by repeat (first | (with_reducible first | exact HB.out | apply pA | apply pN | apply pD | refine pS ?_ GE272.out | refine pS ?_ GE273.out) | exact HB.out)) hb); have n3_ := Aside0.mk (hbox); have n4_ := Aside0.mk ((by rw [hg]; exact (below_size (by repeat (first | (with_reducible first | exact HB.out | apply pA | apply pN | apply pD | refine pS ?_ GE272.out | refine pS ?_ GE273.out) | exact HB.out))) : w.heap.size ≤ gb274)); have n5_ := Aside0.mk ((by rw [hg]; exact (below_size (by repeat (first | (with_reducible first | exact HB.out | apply pA | apply pN | apply pD | refine pS ?_ GE272.out | refine pS ?_ GE273.out) | exact HB.out))) : w.heap.size ≤ gb274)); have n6_ := Aside0.mk ((by rw [hg]; exact Nat.ne_of_lt (blk_lt (g := gb272) (o := .cells #[.slice A0_0 l0_0.length c0_0, .bool a0_1] 38 (0, 0)) (zB BK272.out)) : gb272 ≠ gb274)); have n7_ := Aside0.mk ((by rw [hg]; exact Nat.ne_of_gt (blk_lt (g := gb272) (o := .cells #[.slice A0_0 l0_0.length c0_0, .bool a0_1] 38 (0, 0)) (zB BK272.out)) : gb274 ≠ gb272)); have n8_ := Aside0.mk ((by rw [hg]; exact Nat.ne_of_lt (blk_lt (g := gb273) (o := .cells #[.slice none 0 0, .bool false] 38 (0, 0)) (zB BK273.out)) : gb273 ≠ gb274)); have n9_ := Aside0.mk ((by rw [hg]; exact Nat.ne_of_gt (blk_lt (g := gb273) (o := .cells #[.slice none 0 0, .bool false] 38 (0, 0)) (zB BK273.out)) : gb274 ≠ gb273)); clear BK272; clear BK273; clear HB; have BK272 := n0_; have BK273 := n1_; have HB := n2_; have BK274 := n3_; have GW274 := n4_; have GE274 := n5_; have NB272_274 := n6_; have NB274_272 := n7_; have NB273_274 := n8_; have NB274_273 := n9_; clear n0_ n1_ n2_ n3_ n4_ n5_ n6_ n7_ n8_ n9_; clear hb hbox hg; have hnb37 := NB272_273.out; have hnc37 := NB273_272.out; have hnb38 := NB272_274.out; have hnc38 := NB274_272.out; obtain ⟨hcz39_0, hcz39_1, hfz39_0, hfz39_1⟩ := bk2 BK272.out) | ((with_reducible refine gate_callee (f := 27) rfl ?_); refine goesL_ (some 15) rfl rfl Try.func27 (by kernel_rfl) rfl #[.agg #[.slice A0_0 l0_0.length c0_0, .bool a0_1], .int .u8 a1] rfl (by (try simp only [List.map_toArray, List.map_cons, List.map_nil]); first | done | rfl | (simp only [List.length_drop, List.length_take]; rfl)) ?_; (with_reducible refine (stuff_Feed.calls k _ _ l0_0 a0_1 a1 t275 t278 t279 false _ ?side1 ?side2 A3.out).mono ?_); (case side1 => repeat (first | exact (Kd.C_below HR0_0.out HB.out) | (with_reducible refine Kd.C_alloc ?_ _) | (with_reducible refine Kd.C_drewN ?_ _) | (with_reducible refine Kd.C_drew ?_))); (case side2 => exact HC0_0.out); rintro e w40 ⟨v276, v280, rfl, ho0, ho1, hb⟩; refine ⟨_, rfl, ?_⟩; have n0_ := Aside0.mk (Kd.R_lower (Kd.R_newM (M := fun k_ => (w.heap.size ≤ k_)) ho0 (below_size (by repeat (first | (with_reducible first | exact HB.out | apply pA | apply pN | apply pD | refine pS ?_ GE272.out | refine pS ?_ GE273.out | refine pS ?_ GE274.out) | exact HB.out))) (fun k_ h_ => h_)) (below_size (by repeat (first | (with_reducible first | exact HB.out | apply pA | apply pN | apply pD | refine pS ?_ GE272.out | refine pS ?_ GE273.out | refine pS ?_ GE274.out) | exact HB.out)))); have n1_ := Aside0.mk (Kd.R_lower (Kd.R_newM (M := fun k_ => (w.heap.size ≤ k_)) ho1 (below_size (by repeat (first | (with_reducible first | exact HB.out | apply pA | apply pN | apply pD | refine pS ?_ GE272.out | refine pS ?_ GE273.out | refine pS ?_ GE274.out) | exact HB.out))) (fun k_ h_ => h_)) (below_size (by repeat (first | (with_reducible first | exact HB.out | apply pA | apply pN | apply pD | refine pS ?_ GE272.out | refine pS ?_ GE273.out | refine pS ?_ GE274.out) | exact HB.out)))); have n2_ := Aside0.mk (blk_below (g := gb272) (o := .cells #[.slice A0_0 l0_0.length c0_0, .bool a0_1] 38 (0, 0)) (zB BK272.out) hb); have n3_ := Aside0.mk (blk_below (g := gb273) (o := .cells #[.slice none 0 0, .bool false] 38 (0, 0)) (zB BK273.out) hb); have n4_ := Aside0.mk (blk_below (g := gb274) (o := .cells #[.int .u16 0, .slice none 0 0] 25 (0, 0)) (zB BK274.out) hb); have n5_ := Aside0.mk (below_step (by repeat (first | (with_reducible first | exact HB.out | apply pA | apply pN | apply pD | refine pS ?_ GE272.out | refine pS ?_ GE273.out | refine pS ?_ GE274.out) | exact HB.out)) hb); clear BK272; clear BK273; clear BK274; clear HB; have HO277 := n0_; have HO281 := n1_; have BK272 := n2_; have BK273 := n3_; have BK274 := n4_; have HB := n5_; clear n0_ n1_ n2_ n3_ n4_ n5_; (try clear hb); (try clear hb2); (try clear hk); (try clear hi); (try clear ho0); (try clear ho1)) | ((with_reducible refine gate_dst (N := 7) rfl ?_); refine box_event ?hg (N := 7) ?hd (cs := #[.slice none 0 0, .bool false]) (t := 38) ?hr ?_; (case hd => rfl); (case hg => rfl); (case hr => first | (go_simp; done) | (go_simp; rfl)); intro gb283 hg w41 hbox hb; have n0_ := Aside0.mk (Kd.R_below (zR HO277.out) hb); have n1_ := Aside0.mk (Kd.R_below (zR HO281.out) hb); have n2_ := Aside0.mk (blk_below (g := gb272) (o := .cells #[.slice A0_0 l0_0.length c0_0, .bool a0_1] 38 (0, 0)) (zB BK272.out) hb); have n3_ := Aside0.mk (blk_below (g := gb273) (o := .cells #[.slice none 0 0, .bool false] 38 (0, 0)) (zB BK273.out) hb); have n4_ := Aside0.mk (blk_below (g := gb274) (o := .cells #[.int .u16 0, .slice none 0 0] 25 (0, 0)) (zB BK274.out) hb); have n5_ := Aside0.mk (below_step (by repeat (first | (with_reducible first | exact HB.out | apply pA | apply pN | apply pD | refine pS ?_ GE272.out | refine pS ?_ GE273.out | refine pS ?_ GE274.out) | exact HB.out)) hb); have n6_ := Aside0.mk (hbox); have n7_ := Aside0.mk ((by rw [hg]; exact (below_size (by repeat (first | (with_reducible first | exact HB.out | apply pA | apply pN | apply pD | refine pS ?_ GE272.out | refine pS ?_ GE273.out | refine pS ?_ GE274.out) | exact HB.out))) : w.heap.size ≤ gb283)); have n8_ := Aside0.mk ((by rw [hg]; exact (below_size (by repeat (first | (with_reducible first | exact HB.out | apply pA | apply pN | apply pD | refine pS ?_ GE272.out | refine pS ?_ GE273.out | refine pS ?_ GE274.out) | exact HB.out))) : w.heap.size ≤ gb283)); have n9_ := Aside0.mk ((by rw [hg]; exact Nat.ne_of_lt (blk_lt (g := gb272) (o := .cells #[.slice A0_0 l0_0.length c0_0, .bool a0_1] 38 (0, 0)) (zB BK272.out)) : gb272 ≠ gb283)); have n10_ := Aside0.mk ((by rw [hg]; exact Nat.ne_of_gt (blk_lt (g := gb272) (o := .cells #[.slice A0_0 l0_0.length c0_0, .bool a0_1] 38 (0, 0)) (zB BK272.out)) : gb283 ≠ gb272)); have n11_ := Aside0.mk ((by rw [hg]; exact Nat.ne_of_lt (blk_lt (g := gb273) (o := .cells #[.slice none 0 0, .bool false] 38 (0, 0)) (zB BK273.out)) : gb273 ≠ gb283)); have n12_ := Aside0.mk ((by rw [hg]; exact Nat.ne_of_gt (blk_lt (g := gb273) (o := .cells #[.slice none 0 0, .bool false] 38 (0, 0)) (zB BK273.out)) : gb283 ≠ gb273)); have n13_ := Aside0.mk ((by rw [hg]; exact Nat.ne_of_lt (blk_lt (g := gb274) (o := .cells #[.int .u16 0, .slice none 0 0] 25 (0, 0)) (zB BK274.out)) : gb274 ≠ gb283)); have n14_ := Aside0.mk ((by rw [hg]; exact Nat.ne_of_gt (blk_lt (g := gb274) (o := .cells #[.int .u16 0, .slice none 0 0] 25 (0, 0)) (zB BK274.out)) : gb283 ≠ gb274)); clear HO277; clear HO281; clear BK272; clear BK273; clear BK274; clear HB; have HO277 := n0_; have HO281 := n1_; have BK272 := n2_; have BK273 := n3_; have BK274 := n4_; have HB := n5_; have BK283 := n6_; have GW283 := n7_; have GE283 := n8_; have NB272_283 := n9_; have NB283_272 := n10_; have NB273_283 := n11_; have NB283_273 := n12_; have NB274_283 := n13_; have NB283_274 := n14_; clear n0_ n1_ n2_ n3_ n4_ n5_ n6_ n7_ n8_ n9_ n10_ n11_ n12_ n13_ n14_; clear hb hbox hg; obtain ⟨Ao42, co42, eo42⟩ := Kd.R_slice HO277.out; subst eo42; have hnb43 := NB283_272.out; have hnc43 := NB272_283.out; have hnb44 := NB283_273.out; have hnc44 := NB273_283.out; have hnb45 := NB283_274.out; have hnc45 := NB274_283.out; obtain ⟨hcz46_0, hcz46_1, hfz46_0, hfz46_1⟩ := bk2 BK283.out; obtain ⟨Ao47, co47, eo47⟩ := Kd.R_slice HO281.out; subst eo47) | ((with_reducible refine gate_callee (f := 11) rfl ?_); refine goesL_ (some 21) rfl rfl Try.func11 (by kernel_rfl) rfl #[.slice Ao47 t279.length co47] rfl (by (try simp only [List.map_toArray, List.map_cons, List.map_nil]); first | done | rfl | (simp only [List.length_drop, List.length_take]; rfl)) ?_; (with_reducible refine (frame_Read.calls k _ _ t279 t284 t285 t288 _ ?side1 ?side2 A4.out).mono ?_); (case side1 => refine (Kd.R_reads' (e := 5) (base := w.heap.size) (ok := fun k_ => ((w.heap.size ≤ k_) ∧ some k_ ≠ (.slice Ao42 t275.length co42 : Value).ownBlock)) (n := t279.length) (c := co47) ?_).2.2; exact (zR ((Kd.R_mono (Kd.R_far (p := ⟨gb283, 1, none⟩) (Kd.R_far (p := ⟨gb283, 0, none⟩) (Kd.R_types HO281.out BK283.out (by decide)) (fun _ hk => hk.2) (.slice Ao42 t275.length co42)) (fun _ hk => hk.2) (.bool t278)) (fun _ h_ => h_.1))))); (case side2 => exact (Kd.R_reads' HO281.out).2.1); rintro e w48 ⟨v286, rfl, ho0, hb⟩; refine ⟨_, rfl, ?_⟩; have n0_ := Aside0.mk (Kd.R_below (zR ((Kd.R_mono (Kd.R_far (p := ⟨gb283, 1, none⟩) (Kd.R_far (p := ⟨gb283, 0, none⟩) (Kd.R_types HO277.out BK283.out (by decide)) (fun _ hk => hk.2) (.slice Ao42 t275.length co42)) (fun _ hk => hk.2) (.bool t278)) (fun _ h_ => h_.1)))) hb); have n1_ := Aside0.mk (Kd.R_below (zR ((Kd.R_mono (Kd.R_far (p := ⟨gb283, 1, none⟩) (Kd.R_far (p := ⟨gb283, 0, none⟩) (Kd.R_types HO281.out BK283.out (by decide)) (fun _ hk => hk.2) (.slice Ao42 t275.length co42)) (fun _ hk => hk.2) (.bool t278)) (fun _ h_ => h_.1)))) hb); have n2_ := Aside0.mk (Kd.V_lower (Kd.V_mono (ok' := fun k_ => (w.heap.size ≤ k_) ∧ some k_ ≠ (.slice Ao42 t275.length co42 : Value).ownBlock ∧ some k_ ≠ (.slice Ao47 t279.length co47 : Value).ownBlock ∧ k_ ≠ gb272 ∧ k_ ≠ gb273 ∧ k_ ≠ gb274 ∧ k_ ≠ gb283) ho0 (fun k_ hk_ => ⟨(Nat.le_trans (below_size (by repeat (first | (with_reducible first | exact HB.out | apply pA | apply pN | apply pD | refine pS ?_ GE272.out | refine pS ?_ GE273.out | refine pS ?_ GE274.out | refine pS ?_ GE283.out) | exact HB.out))) hk_), (Kd.fresh' (Kd.R_lt (zR ((Kd.R_mono (Kd.R_far (p := ⟨gb283, 1, none⟩) (Kd.R_far (p := ⟨gb283, 0, none⟩) (Kd.R_types HO277.out BK283.out (by decide)) (fun _ hk => hk.2) (.slice Ao42 t275.length co42)) (fun _ hk => hk.2) (.bool t278)) (fun _ h_ => h_.1))))) k_ hk_), (Kd.fresh' (Kd.R_lt (zR ((Kd.R_mono (Kd.R_far (p := ⟨gb283, 1, none⟩) (Kd.R_far (p := ⟨gb283, 0, none⟩) (Kd.R_types HO281.out BK283.out (by decide)) (fun _ hk => hk.2) (.slice Ao42 t275.length co42)) (fun _ hk => hk.2) (.bool t278)) (fun _ h_ => h_.1))))) k_ hk_), (Kd.freshB (g := gb272) (o := .cells #[.slice A0_0 l0_0.length c0_0, .bool a0_1] 38 (0, 0)) (by (with_reducible repeat (first | refine qN ?_ _ | refine qD ?_ | refine qA ?_ _)); refine blk_far ?_ NB272_283.out _; (with_reducible repeat (first | refine qN ?_ _ | refine qD ?_ | refine qA ?_ _)); refine blk_far ?_ NB272_283.out _; (with_reducible repeat (first | refine qN ?_ _ | refine qD ?_ | refine qA ?_ _)); exact BK272.out) k_ hk_), (Kd.freshB (g := gb273) (o := .cells #[.slice none 0 0, .bool false] 38 (0, 0)) (by (with_reducible repeat (first | refine qN ?_ _ | refine qD ?_ | refine qA ?_ _)); refine blk_far ?_ NB273_283.out _; (with_reducible repeat (first | refine qN ?_ _ | refine qD ?_ | refine qA ?_ _)); refine blk_far ?_ NB273_283.out _; (with_reducible repeat (first | refine qN ?_ _ | refine qD ?_ | refine qA ?_ _)); exact BK273.out) k_ hk_), (Kd.freshB (g := gb274) (o := .cells #[.int .u16 0, .slice none 0 0] 25 (0, 0)) (by (with_reducible repeat (first | refine qN ?_ _ | refine qD ?_ | refine qA ?_ _)); refine blk_far ?_ NB274_283.out _; (with_reducible repeat (first | refine qN ?_ _ | refine qD ?_ | refine qA ?_ _)); refine blk_far ?_ NB274_283.out _; (with_reducible repeat (first | refine qN ?_ _ | refine qD ?_ | refine qA ?_ _)); exact BK274.out) k_ hk_), (Kd.freshB (g := gb283) (o := .cells #[.slice Ao42 t275.length co42, .bool t278] 38 (0, 0)) (by (with_reducible repeat (first | refine qN ?_ _ | refine qD ?_ | refine qA ?_ _)); refine blk_put (cs := #[.slice Ao42 t275.length co42, .bool false]) ?_ 1 _ rfl; (with_reducible repeat (first | refine qN ?_ _ | refine qD ?_ | refine qA ?_ _)); refine blk_put (cs := #[.slice none 0 0, .bool false]) ?_ 0 _ rfl; (with_reducible repeat (first | refine qN ?_ _ | refine qD ?_ | refine qA ?_ _)); exact BK283.out) k_ hk_)⟩)) (below_size (by repeat (first | (with_reducible first | exact HB.out | apply pA | apply pN | apply pD | refine pS ?_ GE272.out | refine pS ?_ GE273.out | refine pS ?_ GE274.out | refine pS ?_ GE283.out) | exact HB.out)))); have n3_ := Aside0.mk (blk_below (g := gb272) (o := .cells #[.slice A0_0 l0_0.length c0_0, .bool a0_1] 38 (0, 0)) (by (with_reducible repeat (first | refine qN ?_ _ | refine qD ?_ | refine qA ?_ _)); refine blk_far ?_ NB272_283.out _; (with_reducible repeat (first | refine qN ?_ _ | refine qD ?_ | refine qA ?_ _)); refine blk_far ?_ NB272_283.out _; (with_reducible repeat (first | refine qN ?_ _ | refine qD ?_ | refine qA ?_ _)); exact BK272.out) hb); have n4_ := Aside0.mk (blk_below (g := gb273) (o := .cells #[.slice none 0 0, .bool false] 38 (0, 0)) (by (with_reducible repeat (first | refine qN ?_ _ | refine qD ?_ | refine qA ?_ _)); refine blk_far ?_ NB273_283.out _; (with_reducible repeat (first | refine qN ?_ _ | refine qD ?_ | refine qA ?_ _)); refine blk_far ?_ NB273_283.out _; (with_reducible repeat (first | refine qN ?_ _ | refine qD ?_ | refine qA ?_ _)); exact BK273.out) hb); have n5_ := Aside0.mk (blk_below (g := gb274) (o := .cells #[.int .u16 0, .slice none 0 0] 25 (0, 0)) (by (with_reducible repeat (first | refine qN ?_ _ | refine qD ?_ | refine qA ?_ _)); refine blk_far ?_ NB274_283.out _; (with_reducible repeat (first | refine qN ?_ _ | refine qD ?_ | refine qA ?_ _)); refine blk_far ?_ NB274_283.out _; (with_reducible repeat (first | refine qN ?_ _ | refine qD ?_ | refine qA ?_ _)); exact BK274.out) hb); have n6_ := Aside0.mk (blk_below (g := gb283) (o := .cells #[.slice Ao42 t275.length co42, .bool t278] 38 (0, 0)) (by (with_reducible repeat (first | refine qN ?_ _ | refine qD ?_ | refine qA ?_ _)); refine blk_put (cs := #[.slice Ao42 t275.length co42, .bool false]) ?_ 1 _ rfl; (with_reducible repeat (first | refine qN ?_ _ | refine qD ?_ | refine qA ?_ _)); refine blk_put (cs := #[.slice none 0 0, .bool false]) ?_ 0 _ rfl; (with_reducible repeat (first | refine qN ?_ _ | refine qD ?_ | refine qA ?_ _)); exact BK283.out) hb); have n7_ := Aside0.mk (below_step (by repeat (first | (with_reducible first | exact HB.out | apply pA | apply pN | apply pD | refine pS ?_ GE272.out | refine pS ?_ GE273.out | refine pS ?_ GE274.out | refine pS ?_ GE283.out) | exact HB.out)) hb); clear HO277; clear HO281; clear BK272; clear BK273; clear BK274; clear BK283; clear HB; have HO277 := n0_; have HO281 := n1_; have HO287 := n2_; have BK272 := n3_; have BK273 := n4_; have BK274 := n5_; have BK283 := n6_; have HB := n7_; clear n0_ n1_ n2_ n3_ n4_ n5_ n6_ n7_; (try clear hb); (try clear hb2); (try clear hk); (try clear hi); (try clear ho0)) | ((with_reducible refine gate_dst (N := 10) rfl ?_); refine box_event ?hg (N := 10) ?hd (cs := #[.int .u16 0, .slice none 0 0]) (t := 25) ?hr ?_; (case hd => rfl); (case hg => rfl); (case hr => first | (go_simp; done) | (go_simp; rfl)); intro gb289 hg w49 hbox hb; have n0_ := Aside0.mk (Kd.R_below (zR HO277.out) hb); have n1_ := Aside0.mk (Kd.R_below (zR HO281.out) hb); have n2_ := Aside0.mk (Kd.V_below (Kd.V_elderB (zV HO287.out) gb289 (Nat.le_of_eq hg.symm)) hb); have n3_ := Aside0.mk (blk_below (g := gb272) (o := .cells #[.slice A0_0 l0_0.length c0_0, .bool a0_1] 38 (0, 0)) (zB BK272.out) hb); have n4_ := Aside0.mk (blk_below (g := gb273) (o := .cells #[.slice none 0 0, .bool false] 38 (0, 0)) (zB BK273.out) hb); have n5_ := Aside0.mk (blk_below (g := gb274) (o := .cells #[.int .u16 0, .slice none 0 0] 25 (0, 0)) (zB BK274.out) hb); have n6_ := Aside0.mk (blk_below (g := gb283) (o := .cells #[.slice Ao42 t275.length co42, .bool t278] 38 (0, 0)) (zB BK283.out) hb); have n7_ := Aside0.mk (below_step (by repeat (first | (with_reducible first | exact HB.out | apply pA | apply pN | apply pD | refine pS ?_ GE272.out | refine pS ?_ GE273.out | refine pS ?_ GE274.out | refine pS ?_ GE283.out) | exact HB.out)) hb); have n8_ := Aside0.mk (hbox); have n9_ := Aside0.mk ((by rw [hg]; exact (below_size (by repeat (first | (with_reducible first | exact HB.out | apply pA | apply pN | apply pD | refine pS ?_ GE272.out | refine pS ?_ GE273.out | refine pS ?_ GE274.out | refine pS ?_ GE283.out) | exact HB.out))) : w.heap.size ≤ gb289)); have n10_ := Aside0.mk ((by rw [hg]; exact (below_size (by repeat (first | (with_reducible first | exact HB.out | apply pA | apply pN | apply pD | refine pS ?_ GE272.out | refine pS ?_ GE273.out | refine pS ?_ GE274.out | refine pS ?_ GE283.out) | exact HB.out))) : w.heap.size ≤ gb289)); have n11_ := Aside0.mk ((by rw [hg]; exact Nat.ne_of_lt (blk_lt (g := gb272) (o := .cells #[.slice A0_0 l0_0.length c0_0, .bool a0_1] 38 (0, 0)) (zB BK272.out)) : gb272 ≠ gb289)); have n12_ := Aside0.mk ((by rw [hg]; exact Nat.ne_of_gt (blk_lt (g := gb272) (o := .cells #[.slice A0_0 l0_0.length c0_0, .bool a0_1] 38 (0, 0)) (zB BK272.out)) : gb289 ≠ gb272)); have n13_ := Aside0.mk ((by rw [hg]; exact Nat.ne_of_lt (blk_lt (g := gb273) (o := .cells #[.slice none 0 0, .bool false] 38 (0, 0)) (zB BK273.out)) : gb273 ≠ gb289)); have n14_ := Aside0.mk ((by rw [hg]; exact Nat.ne_of_gt (blk_lt (g := gb273) (o := .cells #[.slice none 0 0, .bool false] 38 (0, 0)) (zB BK273.out)) : gb289 ≠ gb273)); have n15_ := Aside0.mk ((by rw [hg]; exact Nat.ne_of_lt (blk_lt (g := gb274) (o := .cells #[.int .u16 0, .slice none 0 0] 25 (0, 0)) (zB BK274.out)) : gb274 ≠ gb289)); have n16_ := Aside0.mk ((by rw [hg]; exact Nat.ne_of_gt (blk_lt (g := gb274) (o := .cells #[.int .u16 0, .slice none 0 0] 25 (0, 0)) (zB BK274.out)) : gb289 ≠ gb274)); have n17_ := Aside0.mk ((by rw [hg]; exact Nat.ne_of_lt (blk_lt (g := gb283) (o := .cells #[.slice Ao42 t275.length co42, .bool t278] 38 (0, 0)) (zB BK283.out)) : gb283 ≠ gb289)); have n18_ := Aside0.mk ((by rw [hg]; exact Nat.ne_of_gt (blk_lt (g := gb283) (o := .cells #[.slice Ao42 t275.length co42, .bool t278] 38 (0, 0)) (zB BK283.out)) : gb289 ≠ gb283)); clear HO277; clear HO281; clear HO287; clear BK272; clear BK273; clear BK274; clear BK283; clear HB; have HO277 := n0_; have HO281 := n1_; have HO287 := n2_; have BK272 := n3_; have BK273 := n4_; have BK274 := n5_; have BK283 := n6_; have HB := n7_; have BK289 := n8_; have GW289 := n9_; have GE289 := n10_; have NB272_289 := n11_; have NB289_272 := n12_; have NB273_289 := n13_; have NB289_273 := n14_; have NB274_289 := n15_; have NB289_274 := n16_; have NB283_289 := n17_; have NB289_283 := n18_; clear n0_ n1_ n2_ n3_ n4_ n5_ n6_ n7_ n8_ n9_ n10_ n11_ n12_ n13_ n14_ n15_ n16_ n17_ n18_; clear hb hbox hg; have hnb50 := NB289_272.out; have hnc50 := NB272_289.out; have hnb51 := NB289_273.out; have hnc51 := NB273_289.out; have hnb52 := NB289_274.out; have hnc52 := NB274_289.out; have hnb53 := NB289_283.out; have hnc53 := NB283_289.out; obtain ⟨hcz54_0, hcz54_1, hfz54_0, hfz54_1⟩ := bk2 BK289.out; obtain ⟨Ao55, co55, eo55⟩ := Kd.V_slice HO287.out; subst eo55))
  have n0_ : Aside0 (Kd.R (Kd.int .u8) 5 ((w49.setCell ⟨gb289, 0, none⟩ (.int .u16 t284)).setCell ⟨gb289, 1, none⟩ (.slice Ao55 t285.length co55)) w.heap.size (fun k_ => (w.heap.size ≤ k_) ∧ some k_ ≠ (.slice Ao47 t279.length co47 : Value).ownBlock) (.slice Ao42 t275.length co42) t275) := ⟨zR (Kd.R_mono (Kd.R_far (p := ⟨gb289, 1, none⟩) (Kd.R_far (p := ⟨gb289, 0, none⟩) (Kd.R_types HO277.out BK289.out (by decide)) (fun _ hk => hk.2) (.int .u16 t284)) (fun _ hk => hk.2) (.slice Ao55 t285.length co55)) (fun _ hk => ⟨hk.1.1, hk.1.2⟩))⟩
  have n1_ : Aside0 (Kd.R (Kd.int .u8) 5 ((w49.setCell ⟨gb289, 0, none⟩ (.int .u16 t284)).setCell ⟨gb289, 1, none⟩ (.slice Ao55 t285.length co55)) w.heap.size (fun k_ => (w.heap.size ≤ k_) ∧ some k_ ≠ (.slice Ao42 t275.length co42 : Value).ownBlock) (.slice Ao47 t279.length co47) t279) := ⟨zR (Kd.R_mono (Kd.R_far (p := ⟨gb289, 1, none⟩) (Kd.R_far (p := ⟨gb289, 0, none⟩) (Kd.R_types HO281.out BK289.out (by decide)) (fun _ hk => hk.2) (.int .u16 t284)) (fun _ hk => hk.2) (.slice Ao55 t285.length co55)) (fun _ hk => ⟨hk.1.1, hk.1.2⟩))⟩
  have n2_ : Aside0 (Kd.V (Kd.int .u8) 5 ((w49.setCell ⟨gb289, 0, none⟩ (.int .u16 t284)).setCell ⟨gb289, 1, none⟩ (.slice Ao55 t285.length co55)) w.heap.size (fun k_ => (w.heap.size ≤ k_) ∧ some k_ ≠ (.slice Ao42 t275.length co42 : Value).ownBlock ∧ some k_ ≠ (.slice Ao47 t279.length co47 : Value).ownBlock ∧ k_ ≠ gb272 ∧ k_ ≠ gb273 ∧ k_ ≠ gb274 ∧ k_ ≠ gb283 ∧ k_ ≠ gb289) (.slice Ao55 t285.length co55) t285) := ⟨zV (Kd.V_mono (Kd.V_far (p := ⟨gb289, 1, none⟩) (Kd.V_far (p := ⟨gb289, 0, none⟩) (Kd.V_mono HO287.out (fun k_ hk => (⟨hk, hk.2⟩ : _ ∧ k_ ≠ gb289))) (fun _ hk => hk.2) (.int .u16 t284)) (fun _ hk => hk.2) (.slice Ao55 t285.length co55)) (fun _ hk => ⟨hk.1.1.1, ⟨hk.1.1.2.1, ⟨hk.1.1.2.2.1, ⟨hk.1.1.2.2.2.1, ⟨hk.1.1.2.2.2.2.1, ⟨hk.1.1.2.2.2.2.2.1, ⟨hk.1.1.2.2.2.2.2.2, hk.1.2⟩⟩⟩⟩⟩⟩⟩))⟩
  have n3_ : Aside0 (((w49.setCell ⟨gb289, 0, none⟩ (.int .u16 t284)).setCell ⟨gb289, 1, none⟩ (.slice Ao55 t285.length co55)).heap[gb272]? = some (.cells #[.slice A0_0 l0_0.length c0_0, .bool a0_1] 38 (0, 0))) := ⟨by (with_reducible repeat (first | refine qN ?_ _ | refine qD ?_ | refine qA ?_ _)); refine blk_far ?_ NB272_289.out _; (with_reducible repeat (first | refine qN ?_ _ | refine qD ?_ | refine qA ?_ _)); refine blk_far ?_ NB272_289.out _; (with_reducible repeat (first | refine qN ?_ _ | refine qD ?_ | refine qA ?_ _)); exact BK272.out⟩
  have n4_ : Aside0 (((w49.setCell ⟨gb289, 0, none⟩ (.int .u16 t284)).setCell ⟨gb289, 1, none⟩ (.slice Ao55 t285.length co55)).heap[gb273]? = some (.cells #[.slice none 0 0, .bool false] 38 (0, 0))) := ⟨by (with_reducible repeat (first | refine qN ?_ _ | refine qD ?_ | refine qA ?_ _)); refine blk_far ?_ NB273_289.out _; (with_reducible repeat (first | refine qN ?_ _ | refine qD ?_ | refine qA ?_ _)); refine blk_far ?_ NB273_289.out _; (with_reducible repeat (first | refine qN ?_ _ | refine qD ?_ | refine qA ?_ _)); exact BK273.out⟩
  have n5_ : Aside0 (((w49.setCell ⟨gb289, 0, none⟩ (.int .u16 t284)).setCell ⟨gb289, 1, none⟩ (.slice Ao55 t285.length co55)).heap[gb274]? = some (.cells #[.int .u16 0, .slice none 0 0] 25 (0, 0))) := ⟨by (with_reducible repeat (first | refine qN ?_ _ | refine qD ?_ | refine qA ?_ _)); refine blk_far ?_ NB274_289.out _; (with_reducible repeat (first | refine qN ?_ _ | refine qD ?_ | refine qA ?_ _)); refine blk_far ?_ NB274_289.out _; (with_reducible repeat (first | refine qN ?_ _ | refine qD ?_ | refine qA ?_ _)); exact BK274.out⟩
  have n6_ : Aside0 (((w49.setCell ⟨gb289, 0, none⟩ (.int .u16 t284)).setCell ⟨gb289, 1, none⟩ (.slice Ao55 t285.length co55)).heap[gb283]? = some (.cells #[.slice Ao42 t275.length co42, .bool t278] 38 (0, 0))) := ⟨by (with_reducible repeat (first | refine qN ?_ _ | refine qD ?_ | refine qA ?_ _)); refine blk_far ?_ NB283_289.out _; (with_reducible repeat (first | refine qN ?_ _ | refine qD ?_ | refine qA ?_ _)); refine blk_far ?_ NB283_289.out _; (with_reducible repeat (first | refine qN ?_ _ | refine qD ?_ | refine qA ?_ _)); exact BK283.out⟩
  have n7_ : Aside0 (((w49.setCell ⟨gb289, 0, none⟩ (.int .u16 t284)).setCell ⟨gb289, 1, none⟩ (.slice Ao55 t285.length co55)).heap[gb289]? = some (.cells #[.int .u16 t284, .slice Ao55 t285.length co55] 25 (0, 0))) := ⟨by (with_reducible repeat (first | refine qN ?_ _ | refine qD ?_ | refine qA ?_ _)); refine blk_put (cs := #[.int .u16 t284, .slice none 0 0]) ?_ 1 _ rfl; (with_reducible repeat (first | refine qN ?_ _ | refine qD ?_ | refine qA ?_ _)); refine blk_put (cs := #[.int .u16 0, .slice none 0 0]) ?_ 0 _ rfl; (with_reducible repeat (first | refine qN ?_ _ | refine qD ?_ | refine qA ?_ _)); exact BK289.out⟩
  have n8_ : Aside0 (Below w.heap.size w ((w49.setCell ⟨gb289, 0, none⟩ (.int .u16 t284)).setCell ⟨gb289, 1, none⟩ (.slice Ao55 t285.length co55))) := ⟨by repeat (first | (with_reducible first | exact HB.out | apply pA | apply pN | apply pD | refine pS ?_ GE272.out | refine pS ?_ GE273.out | refine pS ?_ GE274.out | refine pS ?_ GE283.out | refine pS ?_ GE289.out) | exact HB.out)⟩
  (try clear HO277)
  (try clear HO281)
  (try clear HO287)
  (try clear BK272)
  (try clear BK273)
  (try clear BK274)
  (try clear BK283)
  (try clear BK289)
  (try clear HB)
  generalize ((w49.setCell ⟨gb289, 0, none⟩ (.int .u16 t284)).setCell ⟨gb289, 1, none⟩ (.slice Ao55 t285.length co55)) = w56 at n0_ n1_ n2_ n3_ n4_ n5_ n6_ n7_ n8_ ⊢
  have HO277 := n0_
  have HO281 := n1_
  have HO287 := n2_
  have BK272 := n3_
  have BK273 := n4_
  have BK274 := n5_
  have BK283 := n6_
  have BK289 := n7_
  have HB := n8_
  clear n0_ n1_ n2_ n3_ n4_ n5_ n6_ n7_ n8_
  have n0_ := Aside0.mk (Kd.R_drew HO277.out)
  have n1_ := Aside0.mk (Kd.R_drew HO281.out)
  have n2_ := Aside0.mk (Kd.V_drew HO287.out)
  have n3_ := Aside0.mk (qD BK272.out)
  have n4_ := Aside0.mk (qD BK273.out)
  have n5_ := Aside0.mk (qD BK274.out)
  have n6_ := Aside0.mk (qD BK283.out)
  have n7_ := Aside0.mk (qD BK289.out)
  have n8_ := Aside0.mk (pD HB.out)
  clear HO277
  clear HO281
  clear HO287
  clear BK272
  clear BK273
  clear BK274
  clear BK283
  clear BK289
  clear HB
  have HO277 := n0_
  have HO281 := n1_
  have HO287 := n2_
  have BK272 := n3_
  have BK273 := n4_
  have BK274 := n5_
  have BK283 := n6_
  have BK289 := n7_
  have HB := n8_
  clear n0_ n1_ n2_ n3_ n4_ n5_ n6_ n7_ n8_
  refine start_ (n := 10) (S := fun w' => w'.cell? ⟨gb283, 0, none⟩ = some (.slice Ao42 t275.length co42) ∧ w'.cell? ⟨gb283, 1, none⟩ = some (.bool t278) ∧ w'.cell? ⟨gb289, 0, none⟩ = some (.int .u16 t284) ∧ w'.cell? ⟨gb289, 1, none⟩ = some (.slice Ao55 t285.length co55)) (ds := []) #[false, false, false, false, false, false, false, false, false, false] (by kernel_rfl) rfl rfl ⟨(blk_cell BK283.out 0).trans rfl, (blk_cell BK283.out 1).trans rfl, (blk_cell BK289.out 0).trans rfl, (blk_cell BK289.out 1).trans rfl⟩ (fun hHeld => ?_); refine with_tabW frame_Take.tab3 frame_Take.bits3 (fun HT_ HW_ => ?_)
  generalize w56.drew = w57 at HO277 HO281 HO287 BK272 BK273 BK274 BK283 BK289 HB hHeld ⊢
  refine pure_ (i := 2) (N := some 26) (v := ?_) (a' := ?_) #[false, false, true, false, false, false, false, false, false, false] rfl rfl (any_of HT_.out (by kernel_rfl)) (fun _ _ _ h => h) (Or.inl ⟨by rfl, ?_⟩) ?_ ?_
  rotate_left
  ·intro w'
   go_simp
   with_reducible rfl
  rotate_left
  ·simp only [Act.put, sT, s0, s1, i64_w, i32_w]
   rfl
  refine pure_ (i := 3) (N := some 27) (v := ?_) (a' := ?_) #[false, false, true, true, false, false, false, false, false, false] rfl rfl (any_of HT_.out (by kernel_rfl)) (fun _ _ _ h => h) (Or.inl ⟨by rfl, ?_⟩) ?_ ?_
  rotate_left
  ·intro w'
   go_simp
   with_reducible rfl
  rotate_left
  ·simp only [Act.put, sT, s0, s1, i64_w, i32_w]
   rfl
  refine pure_ (i := 4) (N := some 28) (v := undef) (a' := ?_) #[false, false, true, true, true, false, false, false, false, false] rfl rfl (any_of HT_.out (by kernel_rfl)) (fun _ _ _ h => h) (Or.inr ⟨by rfl, rfl⟩) ?_ ?_
  rotate_left
  ·simp only [Act.put, sT, s0, s1, i64_w, i32_w]
   rfl
  refine pure_ (i := 5) (N := some 29) (v := undef) (a' := ?_) #[false, false, true, true, true, true, false, false, false, false] rfl rfl (any_of HT_.out (by kernel_rfl)) (fun _ _ _ h => h) (Or.inr ⟨by rfl, rfl⟩) ?_ ?_
  rotate_left
  ·simp only [Act.put, sT, s0, s1, i64_w, i32_w]
   rfl
  refine pure_ (i := 6) (N := some 30) (v := ?_) (a' := ?_) #[false, false, true, true, true, true, true, false, false, false] rfl rfl (any_of HT_.out (by kernel_rfl)) (fun _ _ _ h => h) (Or.inl ⟨by rfl, ?_⟩) ?_ ?_
  rotate_left
  ·intro w'
   go_simp
   with_reducible rfl
  rotate_left
  ·simp only [Act.put, sT, s0, s1, i64_w, i32_w]
   rfl
  refine take_ (i := 0) (N := some 24) (v := ?_) (a' := ?_) #[true, false, true, true, true, true, true, false, false, false] rfl rfl (take_ofW HT_.out HW_.out (by kernel_rfl)) (fun _ _ _ h => h) (Or.inl ⟨by rfl, ?_⟩) hHeld ?_ ?_
  rotate_left
  ·rintro w' ⟨s0, s1, s2, s3⟩
   go_simp
   with_reducible rfl
  rotate_left
  ·simp only [Act.put, sT, s0, s1, i64_w, i32_w]
   rfl
  refine take_ (i := 1) (N := some 25) (v := ?_) (a' := ?_) #[true, true, true, true, true, true, true, false, false, false] rfl rfl (take_ofW HT_.out HW_.out (by kernel_rfl)) (fun _ _ _ h => h) (Or.inl ⟨by rfl, ?_⟩) hHeld ?_ ?_
  rotate_left
  ·rintro w' ⟨s0, s1, s2, s3⟩
   go_simp
   with_reducible rfl
  rotate_left
  ·simp only [Act.put, sT, s0, s1, i64_w, i32_w]
   rfl
  refine one_ (i := 7) (N := none) #[true, true, true, true, true, true, true, true, false, false] rfl rfl (one_of HT_.out (by kernel_rfl)) (by decide) (fun K hK => ?_)
  have hs58 : w57.cell? ⟨gb273, 0, none⟩ = some (.slice none 0 0) := (blk_cell BK273.out 0).trans rfl
  have hfs58 := blk_frozen BK273.out 0
  have hns58_0 := NB272_273.out
  have hns58_2 := NB274_273.out
  have hns58_3 := NB283_273.out
  have hns58_4 := NB289_273.out
  have hms58_0 := NB273_272.out
  have hms58_2 := NB273_274.out
  have hms58_3 := NB273_283.out
  have hms58_4 := NB273_289.out
  have hs59 : w57.cell? ⟨gb273, 1, none⟩ = some (.bool false) := (blk_cell BK273.out 1).trans rfl
  have hfs59 := blk_frozen BK273.out 1
  have hns59_0 := NB272_273.out
  have hns59_2 := NB274_273.out
  have hns59_3 := NB283_273.out
  have hns59_4 := NB289_273.out
  have hms59_0 := NB273_272.out
  have hms59_2 := NB273_274.out
  have hms59_3 := NB273_283.out
  have hms59_4 := NB273_289.out
  refine skip_ (w1 := ?_) (by rfl) rfl ?_ ?_
  rotate_left
  ·go_simp
   rfl
  refine hK.out _ _ ⟨((cell_far (p := ⟨gb273, _, none⟩) NB283_273.out _).trans (((cell_far (p := ⟨gb273, _, none⟩) NB283_273.out _).trans (hHeld.1)))), ((cell_far (p := ⟨gb273, _, none⟩) NB283_273.out _).trans (((cell_far (p := ⟨gb273, _, none⟩) NB283_273.out _).trans (hHeld.2.1)))), ((cell_far (p := ⟨gb273, _, none⟩) NB289_273.out _).trans (((cell_far (p := ⟨gb273, _, none⟩) NB289_273.out _).trans (hHeld.2.2.1)))), ((cell_far (p := ⟨gb273, _, none⟩) NB289_273.out _).trans (((cell_far (p := ⟨gb273, _, none⟩) NB289_273.out _).trans (hHeld.2.2.2))))⟩ (fun hHeld => ?_)
  clear hK K
  refine one_ (i := 8) (N := none) #[true, true, true, true, true, true, true, true, true, false] rfl rfl (one_of HT_.out (by kernel_rfl)) (by decide) (fun K hK => ?_)
  have hs60 : w57.cell? ⟨gb274, 0, none⟩ = some (.int .u16 0) := (blk_cell BK274.out 0).trans rfl
  have hfs60 := blk_frozen BK274.out 0
  have hns60_0 := NB272_274.out
  have hns60_1 := NB273_274.out
  have hns60_3 := NB283_274.out
  have hns60_4 := NB289_274.out
  have hms60_0 := NB274_272.out
  have hms60_1 := NB274_273.out
  have hms60_3 := NB274_283.out
  have hms60_4 := NB274_289.out
  have hs61 : w57.cell? ⟨gb274, 1, none⟩ = some (.slice none 0 0) := (blk_cell BK274.out 1).trans rfl
  have hfs61 := blk_frozen BK274.out 1
  have hns61_0 := NB272_274.out
  have hns61_1 := NB273_274.out
  have hns61_3 := NB283_274.out
  have hns61_4 := NB289_274.out
  have hms61_0 := NB274_272.out
  have hms61_1 := NB274_273.out
  have hms61_3 := NB274_283.out
  have hms61_4 := NB274_289.out
  refine skip_ (w1 := ?_) (by rfl) rfl ?_ ?_
  rotate_left
  ·go_simp
   rfl
  refine hK.out _ _ ⟨((cell_far (p := ⟨gb274, _, none⟩) NB283_274.out _).trans (((cell_far (p := ⟨gb274, _, none⟩) NB283_274.out _).trans (hHeld.1)))), ((cell_far (p := ⟨gb274, _, none⟩) NB283_274.out _).trans (((cell_far (p := ⟨gb274, _, none⟩) NB283_274.out _).trans (hHeld.2.1)))), ((cell_far (p := ⟨gb274, _, none⟩) NB289_274.out _).trans (((cell_far (p := ⟨gb274, _, none⟩) NB289_274.out _).trans (hHeld.2.2.1)))), ((cell_far (p := ⟨gb274, _, none⟩) NB289_274.out _).trans (((cell_far (p := ⟨gb274, _, none⟩) NB289_274.out _).trans (hHeld.2.2.2))))⟩ (fun hHeld => ?_)
  clear hK K
  refine pure_ (i := 9) (N := some 6) (v := ?_) (a' := ?_) #[true, true, true, true, true, true, true, true, true, true] rfl rfl (any_of HT_.out (by kernel_rfl)) (fun _ _ _ h => h) (Or.inl ⟨by rfl, ?_⟩) ?_ ?_
  rotate_left
  ·intro w'
   go_simp
   with_reducible rfl
  rotate_left
  ·simp only [Act.put, sT, s0, s1, i64_w, i32_w]
   rfl
  refine done_ (done_of HT_.out (by kernel_rfl)) ?_
  try go_wp2
  refine bodyPost_ret (results_list (rs := [.cell 4 38, .cell 5 25, .tmp 6]) rfl (by simp) (.cell gb273 38 #[.slice Ao42 t275.length co42, .bool t278] (0, 0) _ rfl (by (with_reducible repeat (first | refine qN ?_ _ | refine qD ?_ | refine qA ?_ _)); refine blk_far ?_ NB273_274.out _; (with_reducible repeat (first | refine qN ?_ _ | refine qD ?_ | refine qA ?_ _)); refine blk_far ?_ NB273_274.out _; (with_reducible repeat (first | refine qN ?_ _ | refine qD ?_ | refine qA ?_ _)); refine blk_put (cs := #[.slice Ao42 t275.length co42, .bool false]) ?_ 1 _ rfl; (with_reducible repeat (first | refine qN ?_ _ | refine qD ?_ | refine qA ?_ _)); refine blk_put (cs := #[.slice none 0 0, .bool false]) ?_ 0 _ rfl; (with_reducible repeat (first | refine qN ?_ _ | refine qD ?_ | refine qA ?_ _)); exact BK273.out) Try.underlying38 rfl (by kernel_rfl) (.cell gb274 25 #[.int .u16 t284, .slice Ao55 t285.length co55] (0, 0) _ rfl (by (with_reducible repeat (first | refine qN ?_ _ | refine qD ?_ | refine qA ?_ _)); refine blk_put (cs := #[.int .u16 t284, .slice none 0 0]) ?_ 1 _ rfl; (with_reducible repeat (first | refine qN ?_ _ | refine qD ?_ | refine qA ?_ _)); refine blk_put (cs := #[.int .u16 0, .slice none 0 0]) ?_ 0 _ rfl; (with_reducible repeat (first | refine qN ?_ _ | refine qD ?_ | refine qA ?_ _)); refine blk_far ?_ NB274_273.out _; (with_reducible repeat (first | refine qN ?_ _ | refine qD ?_ | refine qA ?_ _)); refine blk_far ?_ NB274_273.out _; (with_reducible repeat (first | refine qN ?_ _ | refine qD ?_ | refine qA ?_ _)); exact BK274.out) Try.underlying25 rfl (by kernel_rfl) (.tmp .nil)))) rfl ?_
  exact ⟨_, _, by first | rfl | (simp [errW_none, errW_some] <;> rfl) | (simp [*, errW_none, errW_some] <;> rfl), zR (Kd.R_mono (Kd.R_far (p := ⟨gb274, 1, none⟩) (Kd.R_far (p := ⟨gb274, 0, none⟩) (Kd.R_far (p := ⟨gb273, 1, none⟩) (Kd.R_far (p := ⟨gb273, 0, none⟩) (Kd.R_types (Kd.R_types HO277.out BK273.out (by decide)) BK274.out (by decide)) (fun _ hk => hk.1.2) (.slice Ao42 t275.length co42)) (fun _ hk => hk.1.2) (.bool t278)) (fun _ hk => hk.2) (.int .u16 t284)) (fun _ hk => hk.2) (.slice Ao55 t285.length co55)) (fun _ hk => hk.1.1.1)), zV (Kd.V_mono (Kd.V_far (p := ⟨gb274, 1, none⟩) (Kd.V_far (p := ⟨gb274, 0, none⟩) (Kd.V_far (p := ⟨gb273, 1, none⟩) (Kd.V_far (p := ⟨gb273, 0, none⟩) (Kd.V_mono (Kd.V_mono HO287.out (fun k_ hk => (⟨hk, hk.2.2.2.2.1⟩ : _ ∧ k_ ≠ gb273))) (fun k_ hk => (⟨hk, hk.1.2.2.2.2.2.1⟩ : _ ∧ k_ ≠ gb274))) (fun _ hk => hk.1.2) (.slice Ao42 t275.length co42)) (fun _ hk => hk.1.2) (.bool t278)) (fun _ hk => hk.2) (.int .u16 t284)) (fun _ hk => hk.2) (.slice Ao55 t285.length co55)) (fun _ hk => ⟨hk.1.1.1, hk.1.1.2.1⟩)), by repeat (first | (with_reducible first | exact HB.out | apply pA | apply pN | apply pD | refine pS ?_ GE272.out | refine pS ?_ GE273.out | refine pS ?_ GE274.out | refine pS ?_ GE283.out | refine pS ?_ GE289.out) | exact HB.out)⟩

/-! ### portreeveref07_Plain: function 39 -/
mutual
def portreeveref07_Plain.l0 : Nat → List Int → List Int → Int → Option (List Int × Int)
  | 0, _, _, _ => none
  | k + 1, x0, x4, x5 => if x5 < (x0.length : Int) then (if 0 ≤ x5 then (if (rd x0 x5) = 125 then (if (wrap64 (x5 + 1)) = (x0.length : Int) then (portreeveref07_Plain.j1 k x0 x4 x5 true) else (if 0 ≤ (wrap64 (x5 + 1)) then (if (wrap64 (x5 + 1)) < (x0.length : Int) then (portreeveref07_Plain.j1 k x0 x4 x5 ((rd x0 (wrap64 (x5 + 1))) == 126)) else (none)) else (none))) else (if (rd x0 x5) = 126 then (some (([] : List Int), 2)) else (if x4.length < 140737488355328 then (portreeveref07_Plain.l0 k x0 (x4 ++ [rd x0 x5]) (wrap64 (x5 + 1))) else (none)))) else (none)) else (some (x4, 0))
def portreeveref07_Plain.j1 : Nat → List Int → List Int → Int → Bool → Option (List Int × Int)
  | 0, _, _, _, _ => none
  | k + 1, x0, x4, x5, x31 => if x31 = true then (some (([] : List Int), 2)) else (if 0 ≤ (wrap64 (x5 + 1)) then (if (wrap64 (x5 + 1)) < (x0.length : Int) then (if x4.length < 140737488355328 then (portreeveref07_Plain.l0 k x0 (x4 ++ [Go.bits .xor .u8 (rd x0 (wrap64 (x5 + 1))) 32]) (wrap64 ((wrap64 (x5 + 1)) + 1))) else (none)) else (none)) else (none))
end
def portreeveref07_Plain.f (k : Nat) (l0 : List Int) : Option (List Int × Int) := portreeveref07_Plain.l0 k l0 ([] : List Int) 0
theorem portreeveref07_Plain.mono_l : ∀ k, (∀ y0 y1 y2, LeO (portreeveref07_Plain.l0 k y0 y1 y2) (portreeveref07_Plain.l0 (k + 1) y0 y1 y2)) ∧ (∀ y0 y1 y2 y3, LeO (portreeveref07_Plain.j1 k y0 y1 y2 y3) (portreeveref07_Plain.j1 (k + 1) y0 y1 y2 y3))
  | 0 => ⟨fun _ _ _ r h => by simp [portreeveref07_Plain.l0] at h, fun _ _ _ _ r h => by simp [portreeveref07_Plain.j1] at h⟩
  | k + 1 => by
    obtain ⟨ih0, ih1⟩ := portreeveref07_Plain.mono_l k
    refine ⟨?_, ?_⟩
    · intro y0 y1 y2
      unfold portreeveref07_Plain.l0
      repeat' first
      | (with_reducible exact ih0 _ _ _)
      | (with_reducible exact ih1 _ _ _ _)
      | (with_reducible exact LeO.refl _)
      | (with_reducible exact LeO.none _)
      | (with_reducible refine LeO.ite ?_ ?_)
      | (with_reducible refine LeO.bind ?_ (fun _ => ?_))
      | exact ih0 _ _ _
      | exact ih1 _ _ _ _
      | exact LeO.none _
      | refine LeO.ite ?_ ?_
      | refine LeO.bind ?_ (fun _ => ?_)
    · intro y0 y1 y2 y3
      unfold portreeveref07_Plain.j1
      repeat' first
      | (with_reducible exact ih0 _ _ _)
      | (with_reducible exact ih1 _ _ _ _)
      | (with_reducible exact LeO.refl _)
      | (with_reducible exact LeO.none _)
      | (with_reducible refine LeO.ite ?_ ?_)
      | (with_reducible refine LeO.bind ?_ (fun _ => ?_))
      | exact ih0 _ _ _
      | exact ih1 _ _ _ _
      | exact LeO.none _
      | refine LeO.ite ?_ ?_
      | refine LeO.bind ?_ (fun _ => ?_)
theorem portreeveref07_Plain.mono : ∀ a0 k, LeO (portreeveref07_Plain.f k a0) (portreeveref07_Plain.f (k + 1) a0) := by
  intro a0 k
  obtain ⟨ih0, ih1⟩ := portreeveref07_Plain.mono_l k
  unfold portreeveref07_Plain.f
  repeat' first
      | (with_reducible exact ih0 _ _ _)
      | (with_reducible exact ih1 _ _ _ _)
      | (with_reducible exact LeO.refl _)
      | (with_reducible exact LeO.none _)
      | (with_reducible refine LeO.ite ?_ ?_)
      | (with_reducible refine LeO.bind ?_ (fun _ => ?_))
      | exact ih0 _ _ _
      | exact ih1 _ _ _ _
      | exact LeO.none _
      | refine LeO.ite ?_ ?_
      | refine LeO.bind ?_ (fun _ => ?_)
set_option maxHeartbeats 8000000 in
set_option maxRecDepth 100000 in
theorem portreeveref07_Plain.calls (k : Nat) (A0 : Option Addr) (c0 : Nat) (l0 : List Int) (r1 : List Int) (r2 : Int) (w : World) (hr0 : Kd.C (Kd.int .u8) w A0 l0.length l0) (hc0 : l0.length ≤ c0) (h : portreeveref07_Plain.f k l0 = some (r1, r2)) :
    Calls Try.prog 39 #[.slice A0 l0.length c0] w fun e w' => ∃ v0_ : Value, e = .returned (.tuple #[v0_, .int .i64 r2]) ∧ Kd.R (Kd.int .u8) 5 w' w.heap.size (fun _ => True) v0_ r1 ∧ Below w.heap.size w w' := by
  have HR0 := Aside0.mk hr0
  have HC0 := Aside0.mk hc0
  clear hr0 hc0
  have HB := Aside0.mk (Below.refl w.heap.size w)
  have H : (portreeveref07_Plain.l0 k l0 ([] : List Int) 0) = some (r1, r2) := h
  clear h
  have H' := Aside0.mk H
  clear H
  go_enter Try.func39, Try.ntmps39
  go_wp2
  go_loopg [4, 5] k (fun kq v4 v5 w' => ∃ (x4_1 : List Int) (x5_1 : Int), v5 = .int .i64 x5_1 ∧ Aside0 (portreeveref07_Plain.l0 kq l0 x4_1 x5_1 = some (r1, r2)) ∧ Aside0 (kq ≤ k) ∧ Aside0 (Kd.R (Kd.int .u8) 5 w' w.heap.size (fun _ => True) v4 x4_1) ∧ Aside0 (Below w.heap.size w w'))
  case atStart => exact ⟨(([] : List Int)), (0), (by first | rfl | (simp; done) | (simp [*]; done)), H', ⟨Nat.le_refl _⟩, ⟨by first | exact Kd.R_nil _ _ _ _ _ | exact Kd.N_nil _ _ _ _ _ | exact Kd.V_nil _ _ _ _ _ | exact Kd.Q_nil _ _ _ _ _ | exact Kd.S_nil _ _ _ _ _⟩, ⟨by repeat (first | (with_reducible first | exact HB.out | apply pA | apply pN | apply pD) | exact HB.out)⟩⟩
  case round =>
    clear H'
    obtain ⟨x4_1, x5_1, rfl, HA, HK1, HO_4, HB⟩ := hrel
    cases gk with
    | zero => exact absurd HA.out (by simp [portreeveref07_Plain.l0])
    | succ k1 =>
      have H := HA.out
      clear HA
      simp only [portreeveref07_Plain.l0] at H
      by_cases c2 : x5_1 < (l0.length : Int)
      · rw [if_pos c2] at H
        have c2b0 : decide (x5_1 < (l0.length : Int)) = true := decide_eq_true c2
        clear c2
        by_cases c3 : 0 ≤ x5_1
        · rw [if_pos c3] at H
          have c3b0 : decide (0 ≤ x5_1) = true := decide_eq_true c3
          clear c3
          by_cases c4 : (rd l0 x5_1) = 125
          · rw [if_pos c4] at H
            have c4b0 : ((rd l0 x5_1) == 125) = true := beq_iff_eq.mpr c4
            have c4b1 : ((rd l0 x5_1) != 125) = false := bne_eq_false_iff_eq.mpr c4
            clear c4
            have HC5 := Aside0.mk H
            clear H
            have p290 : 0 ≤ (x5_1 : Int) := of_decide_eq_true (by first | (with_reducible assumption) | assumption)
            have q290 : x5_1 < (l0.length : Int) := of_decide_eq_true (by first | (with_reducible assumption) | assumption)
            obtain ⟨ad290, e290, hx290_0⟩ := Kd.at_int HR0.out x5_1 p290 q290
            cases e290
            replace hx290_0 := (HB.out.cell (World.block_lt_of_cell? w _ hx290_0)).trans hx290_0
            replace p290 := eq_true p290
            replace q290 := eq_true q290
            go_upto_region 7 with (fail)
            go_cut [31] (fun v31 wc => ∃ (kq : Nat) (x31_4 : Bool), v31 = .bool x31_4 ∧ Aside0 (portreeveref07_Plain.j1 kq l0 x4_1 x5_1 x31_4 = some (r1, r2)) ∧ Aside0 (kq ≤ k1) ∧ Aside0 (Kd.R (Kd.int .u8) 5 wc w.heap.size (fun _ => True) u4 x4_1) ∧ Aside0 (Below w.heap.size w wc))
            case first =>
              have H := HC5.out
              clear HC5
              by_cases c6 : (wrap64 (x5_1 + 1)) = (l0.length : Int)
              · rw [if_pos c6] at H
                have c6b0 : ((wrap64 (x5_1 + 1)) == (l0.length : Int)) = true := beq_iff_eq.mpr c6
                have c6b1 : ((wrap64 (x5_1 + 1)) != (l0.length : Int)) = false := bne_eq_false_iff_eq.mpr c6
                clear c6
                (first | rw [c6b0] | (simp only [i64_w, i32_w]; rw [c6b0]) | skip)
                have H' := Aside0.mk H
                clear H
                go_wp2
                go_meet
                case rel => exact ⟨_, (true), (by first | rfl | (simp; done) | (simp [*]; done)), H', ⟨by have := HK1.out; first | omega | exact Nat.le_refl _⟩, ⟨by (with_reducible repeat (first | apply Kd.R_alloc | apply Kd.R_drewN | apply Kd.R_drew)); exact HO_4.out⟩, ⟨by repeat (first | (with_reducible first | exact HB.out | apply pA | apply pN | apply pD) | exact HB.out)⟩⟩
              · rw [if_neg c6] at H
                have c6b0 : ((wrap64 (x5_1 + 1)) == (l0.length : Int)) = false := beq_eq_false_iff_ne.mpr c6
                have c6b1 : ((wrap64 (x5_1 + 1)) != (l0.length : Int)) = true := bne_iff_ne.mpr c6
                (first | rw [c6b0] | (simp only [i64_w, i32_w]; rw [c6b0]) | skip)
                obtain ⟨ji7, hji7⟩ : ∃ j_ : Int, (wrap64 (x5_1 + 1)) = j_ := ⟨_, rfl⟩
                replace H : (if 0 ≤ (ji7) then (if (ji7) < (l0.length : Int) then (portreeveref07_Plain.j1 k1 l0 x4_1 x5_1 ((rd l0 (ji7)) == 126)) else (none)) else (none)) = some (r1, r2) := by first | (rw [hji7] at H; exact H) | (simp only [hji7] at H ⊢; exact H)
                (try rw [hji7] at c6b0)
                (try rw [hji7] at c6b1)
                have hji7w : (IntKind.i64.wrap (x5_1 + 1)) = ji7 := (i64_w _).trans hji7
                by_cases c8 : 0 ≤ (ji7)
                · rw [if_pos c8] at H
                  have c8b0 : decide (0 ≤ (ji7)) = true := decide_eq_true c8
                  clear c8
                  by_cases c9 : (ji7) < (l0.length : Int)
                  · rw [if_pos c9] at H
                    have c9b0 : decide ((ji7) < (l0.length : Int)) = true := decide_eq_true c9
                    clear c9
                    have H' := Aside0.mk H
                    clear H
                    have p291 : 0 ≤ ((ji7) : Int) := of_decide_eq_true (by first | (with_reducible assumption) | assumption)
                    have q291 : (ji7) < (l0.length : Int) := of_decide_eq_true (by first | (with_reducible assumption) | assumption)
                    obtain ⟨ad291, e291, hx291_0⟩ := Kd.at_int HR0.out (ji7) p291 q291
                    obtain rfl : ad290 = ad291 := (by injection e291)
                    replace hx291_0 := (HB.out.cell (World.block_lt_of_cell? w _ hx291_0)).trans hx291_0
                    replace p291 := eq_true p291
                    replace q291 := eq_true q291
                    go_wp2
                    go_meet
                    case rel => exact ⟨_, (((rd l0 (ji7)) == 126)), (by first | rfl | (simp; done) | (simp only [← hji7] <;> (first | rfl | simp)) | (simp [*]; done)), H', ⟨by have := HK1.out; first | omega | exact Nat.le_refl _⟩, ⟨by (with_reducible repeat (first | apply Kd.R_alloc | apply Kd.R_drewN | apply Kd.R_drew)); exact HO_4.out⟩, ⟨by repeat (first | (with_reducible first | exact HB.out | apply pA | apply pN | apply pD) | exact HB.out)⟩⟩
                  · rw [if_neg c9] at H
                    exact absurd H (by simp)
                · rw [if_neg c8] at H
                  exact absurd H (by simp)
            case rest =>
              clear HC5
              try clear c2
              try clear c2b0
              try clear p2
              try clear q2
              try clear hx2
              try clear c3
              try clear c3b0
              try clear c4
              try clear c4b0
              try clear c4b1
              try clear c6
              try clear c6b0
              try clear c6b1
              try clear p6
              try clear c8
              try clear c8b0
              try clear c9
              try clear c9b0
              try clear hx290_0
              try clear hx291_0
              try clear p290
              try clear p291
              try clear q290
              try clear q291
              obtain ⟨kq, x31_4, rfl, HA, HJ4, HO_4, HB⟩ := hcut
              cases kq with
              | zero => exact absurd HA.out (by simp [portreeveref07_Plain.j1])
              | succ kj4 =>
                have H := HA.out
                clear HA
                simp only [portreeveref07_Plain.j1] at H
                by_cases c10 : x31_4 = true
                · subst c10
                  have H1 : (some (([] : List Int), 2)) = some (r1, r2) := by rw [if_pos rfl] at H; exact H
                  clear H
                  have H := H1
                  clear H1
                  simp only [Option.some.injEq, Prod.mk.injEq] at H
                  obtain ⟨rfl, rfl⟩ := H
                  go_wp2
                  go_ret2
                  exact ⟨_, by first | rfl | (simp [errW_none, errW_some] <;> rfl) | (simp [*, errW_none, errW_some] <;> rfl), by first | exact Kd.R_nil _ _ _ _ _ | exact Kd.N_nil _ _ _ _ _ | exact Kd.V_nil _ _ _ _ _ | exact Kd.Q_nil _ _ _ _ _ | exact Kd.S_nil _ _ _ _ _, by repeat (first | (with_reducible first | exact HB.out | apply pA | apply pN | apply pD) | exact HB.out)⟩
                · replace c10 := Bool.eq_false_iff.mpr c10
                  subst c10
                  have H1 : (if 0 ≤ (wrap64 (x5_1 + 1)) then (if (wrap64 (x5_1 + 1)) < (l0.length : Int) then (if x4_1.length < 140737488355328 then (portreeveref07_Plain.l0 kj4 l0 (x4_1 ++ [Go.bits .xor .u8 (rd l0 (wrap64 (x5_1 + 1))) 32]) (wrap64 ((wrap64 (x5_1 + 1)) + 1))) else (none)) else (none)) else (none)) = some (r1, r2) := by rw [if_neg (show ¬ (false = true) by decide)] at H; exact H
                  clear H
                  have H := H1
                  clear H1
                  obtain ⟨ji11, hji11⟩ : ∃ j_ : Int, (wrap64 (x5_1 + 1)) = j_ := ⟨_, rfl⟩
                  replace H : (if 0 ≤ (ji11) then (if (ji11) < (l0.length : Int) then (if x4_1.length < 140737488355328 then (portreeveref07_Plain.l0 kj4 l0 (x4_1 ++ [Go.bits .xor .u8 (rd l0 (ji11)) 32]) (wrap64 ((ji11) + 1))) else (none)) else (none)) else (none)) = some (r1, r2) := by first | (rw [hji11] at H; exact H) | (simp only [hji11] at H ⊢; exact H)
                  (try rw [hji11] at hji7)
                  have hji11w : (IntKind.i64.wrap (x5_1 + 1)) = ji11 := (i64_w _).trans hji11
                  by_cases c12 : 0 ≤ (ji11)
                  · rw [if_pos c12] at H
                    have c12b0 : decide (0 ≤ (ji11)) = true := decide_eq_true c12
                    clear c12
                    by_cases c13 : (ji11) < (l0.length : Int)
                    · rw [if_pos c13] at H
                      have c13b0 : decide ((ji11) < (l0.length : Int)) = true := decide_eq_true c13
                      clear c13
                      by_cases c14 : x4_1.length < 140737488355328
                      · rw [if_pos c14] at H
                        have LMc14 := Aside0.mk c14
                        clear c14
                        obtain ⟨y293, hy293⟩ : ∃ y_ : List Int, y_ = (x4_1 ++ [Go.bits .xor .u8 (rd l0 (ji11)) 32]) := ⟨_, rfl⟩
                        replace H : (portreeveref07_Plain.l0 kj4 l0 y293 (wrap64 ((ji11) + 1))) = some (r1, r2) := by first | (rw [hy293]; with_reducible exact H) | (have H2_ := (Option.bind_some _ _).symm.trans H; rw [hy293]; with_reducible exact H2_) | (have H2_ := (Option.bind_some _ _).symm.trans H; with_reducible exact H2_) | with_reducible exact H | (rw [hy293]; exact H) | exact H
                        have Ny293 := Aside0.mk hy293
                        clear hy293
                        have H' := Aside0.mk H
                        clear H
                        have p292 : 0 ≤ ((ji11) : Int) := of_decide_eq_true (by first | (with_reducible assumption) | assumption)
                        have q292 : (ji11) < (l0.length : Int) := of_decide_eq_true (by first | (with_reducible assumption) | assumption)
                        obtain ⟨ad292, e292, hx292_0⟩ := Kd.at_int HR0.out (ji11) p292 q292
                        obtain rfl : ad290 = ad292 := (by injection e292)
                        replace hx292_0 := (HB.out.cell (World.block_lt_of_cell? w _ hx292_0)).trans hx292_0
                        replace p292 := eq_true p292
                        replace q292 := eq_true q292
                        go_wp2_with (first | ((with_reducible refine gate_builtin (b := .append) (xs := #[.tmp 41, .tmp 43]) rfl ?_); at_builtin; refine Kd.R_append (Kd.int .u8) (w0 := w) w.heap.size rfl (.tmp 41) (.tmp 43) 23 5 (.int .u8 0) 1 rfl Try.underlying23 info5 rfl (by decide) (by omega) u4 x4_1 (Go.bits .xor .u8 (rd l0 (ji11)) 32) [.int .u8 (Go.bits .xor .u8 (rd l0 (ji11)) 32)] (fun _ => True) (fun _ => False) rfl rfl ?aP (fun _ hk => hk.elim) ?aF ?aO ?aB ?aS ?aL ?_; (case aP => exact rfl); (case aB => exact (by repeat (first | (with_reducible first | exact HB.out | apply pA | apply pN | apply pD) | exact HB.out))); (case aF => exact (fun _ _ => trivial)); (case aO => exact (by (with_reducible repeat (first | apply Kd.R_alloc | apply Kd.R_drewN | apply Kd.R_drew)); exact HO_4.out)); (case aS => exact (below_size (by repeat (first | (with_reducible first | exact HB.out | apply pA | apply pN | apply pD) | exact HB.out)))); (case aL => have := LMc14.out; omega); intro v294 w15 ho hb hg hat; rw [← Ny293.out] at ho; have n0_ := Aside0.mk (hb); have n1_ := Aside0.mk (ho); clear HB; clear HO_4; have HB := n0_; have HO295 := n1_; clear n0_ n1_; clear ho hb hg hat))
                        go_roundg kj4
                        case measure => have := HK1.out; have := HJ4.out; omega
                        case rel => exact ⟨(y293), (wrap64 ((ji11) + 1)), (by first | rfl | (simp; done) | (simp only [← hji11] <;> (first | rfl | simp)) | (simp [*]; done)), H', ⟨by have := HK1.out; have := HJ4.out; omega⟩, ⟨by (with_reducible repeat (first | apply Kd.R_alloc | apply Kd.R_drewN | apply Kd.R_drew)); exact HO295.out⟩, ⟨by repeat (first | (with_reducible first | exact HB.out | apply pA | apply pN | apply pD) | exact HB.out)⟩⟩
                      · rw [if_neg c14] at H
                        exact absurd H (by simp)
                    · rw [if_neg c13] at H
                      exact absurd H (by simp)
                  · rw [if_neg c12] at H
                    exact absurd H (by simp)
          · rw [if_neg c4] at H
            have c4b0 : ((rd l0 x5_1) == 125) = false := beq_eq_false_iff_ne.mpr c4
            have c4b1 : ((rd l0 x5_1) != 125) = true := bne_iff_ne.mpr c4
            by_cases c16 : (rd l0 x5_1) = 126
            · rw [if_pos c16] at H
              have c16b0 : ((rd l0 x5_1) == 126) = true := beq_iff_eq.mpr c16
              have c16b1 : ((rd l0 x5_1) != 126) = false := bne_eq_false_iff_eq.mpr c16
              clear c16
              simp only [Option.some.injEq, Prod.mk.injEq] at H
              obtain ⟨rfl, rfl⟩ := H
              have p290 : 0 ≤ (x5_1 : Int) := of_decide_eq_true (by first | (with_reducible assumption) | assumption)
              have q290 : x5_1 < (l0.length : Int) := of_decide_eq_true (by first | (with_reducible assumption) | assumption)
              obtain ⟨ad290, e290, hx290_0⟩ := Kd.at_int HR0.out x5_1 p290 q290
              cases e290
              replace hx290_0 := (HB.out.cell (World.block_lt_of_cell? w _ hx290_0)).trans hx290_0
              replace p290 := eq_true p290
              replace q290 := eq_true q290
              go_wp2
              go_ret2
              exact ⟨_, by first | rfl | (simp [errW_none, errW_some] <;> rfl) | (simp [*, errW_none, errW_some] <;> rfl), by first | exact Kd.R_nil _ _ _ _ _ | exact Kd.N_nil _ _ _ _ _ | exact Kd.V_nil _ _ _ _ _ | exact Kd.Q_nil _ _ _ _ _ | exact Kd.S_nil _ _ _ _ _, by repeat (first | (with_reducible first | exact HB.out | apply pA | apply pN | apply pD) | exact HB.out)⟩
            · rw [if_neg c16] at H
              have c16b0 : ((rd l0 x5_1) == 126) = false := beq_eq_false_iff_ne.mpr c16
              have c16b1 : ((rd l0 x5_1) != 126) = true := bne_iff_ne.mpr c16
              by_cases c17 : x4_1.length < 140737488355328
              · rw [if_pos c17] at H
                have LMc17 := Aside0.mk c17
                clear c17
                obtain ⟨y296, hy296⟩ : ∃ y_ : List Int, y_ = (x4_1 ++ [rd l0 x5_1]) := ⟨_, rfl⟩
                replace H : (portreeveref07_Plain.l0 k1 l0 y296 (wrap64 (x5_1 + 1))) = some (r1, r2) := by first | (rw [hy296]; with_reducible exact H) | (have H2_ := (Option.bind_some _ _).symm.trans H; rw [hy296]; with_reducible exact H2_) | (have H2_ := (Option.bind_some _ _).symm.trans H; with_reducible exact H2_) | with_reducible exact H | (rw [hy296]; exact H) | exact H
                have Ny296 := Aside0.mk hy296
                clear hy296
                have H' := Aside0.mk H
                clear H
                have p290 : 0 ≤ (x5_1 : Int) := of_decide_eq_true (by first | (with_reducible assumption) | assumption)
                have q290 : x5_1 < (l0.length : Int) := of_decide_eq_true (by first | (with_reducible assumption) | assumption)
                obtain ⟨ad290, e290, hx290_0⟩ := Kd.at_int HR0.out x5_1 p290 q290
                cases e290
                replace hx290_0 := (HB.out.cell (World.block_lt_of_cell? w _ hx290_0)).trans hx290_0
                replace p290 := eq_true p290
                replace q290 := eq_true q290
                go_wp2_with (first | ((with_reducible refine gate_builtin (b := .append) (xs := #[.tmp 41, .tmp 43]) rfl ?_); at_builtin; refine Kd.R_append (Kd.int .u8) (w0 := w) w.heap.size rfl (.tmp 41) (.tmp 43) 23 5 (.int .u8 0) 1 rfl Try.underlying23 info5 rfl (by decide) (by omega) u4 x4_1 (rd l0 x5_1) [.int .u8 (rd l0 x5_1)] (fun _ => True) (fun _ => False) rfl rfl ?aP (fun _ hk => hk.elim) ?aF ?aO ?aB ?aS ?aL ?_; (case aP => exact rfl); (case aB => exact (by repeat (first | (with_reducible first | exact HB.out | apply pA | apply pN | apply pD) | exact HB.out))); (case aF => exact (fun _ _ => trivial)); (case aO => exact (by (with_reducible repeat (first | apply Kd.R_alloc | apply Kd.R_drewN | apply Kd.R_drew)); exact HO_4.out)); (case aS => exact (below_size (by repeat (first | (with_reducible first | exact HB.out | apply pA | apply pN | apply pD) | exact HB.out)))); (case aL => have := LMc17.out; omega); intro v297 w18 ho hb hg hat; rw [← Ny296.out] at ho; have n0_ := Aside0.mk (hb); have n1_ := Aside0.mk (ho); clear HB; clear HO_4; have HB := n0_; have HO298 := n1_; clear n0_ n1_; clear ho hb hg hat))
                go_roundg k1
                case measure => have := HK1.out; omega
                case rel => exact ⟨(y296), (wrap64 (x5_1 + 1)), (by first | rfl | (simp; done) | (simp [*]; done)), H', ⟨by have := HK1.out; omega⟩, ⟨by (with_reducible repeat (first | apply Kd.R_alloc | apply Kd.R_drewN | apply Kd.R_drew)); exact HO298.out⟩, ⟨by repeat (first | (with_reducible first | exact HB.out | apply pA | apply pN | apply pD) | exact HB.out)⟩⟩
              · rw [if_neg c17] at H
                exact absurd H (by simp)
        · rw [if_neg c3] at H
          exact absurd H (by simp)
      · rw [if_neg c2] at H
        have c2b0 : decide (x5_1 < (l0.length : Int)) = false := decide_eq_false c2
        clear c2
        simp only [Option.some.injEq, Prod.mk.injEq] at H
        obtain ⟨rfl, rfl⟩ := H
        go_wp2
        go_ret2
        exact ⟨_, by first | rfl | (simp [errW_none, errW_some] <;> rfl) | (simp [*, errW_none, errW_some] <;> rfl), by (with_reducible repeat (first | apply Kd.R_alloc | apply Kd.R_drewN | apply Kd.R_drew)); exact HO_4.out, by repeat (first | (with_reducible first | exact HB.out | apply pA | apply pN | apply pD) | exact HB.out)⟩

end Go.Proofs.Ytangahcilefelaa.Q

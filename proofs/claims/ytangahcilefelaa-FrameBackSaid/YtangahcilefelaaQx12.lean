-- written by this session's own program (wip/tools/myprint.py), over the kit's print
import Derived.Test.YtangahcilefelaaQx0
import Derived.Test.YtangahcilefelaaQx6
import Derived.Test.YtangahcilefelaaQx11
namespace Go.Proofs.Ytangahcilefelaa.Q
open Go.RowKit Go.Proofs.YtangahcilefelaaW.PrintWords Go.Proofs.YtangahcilefelaaW.PrintLast Go.Proofs.YtangahcilefelaaW.PrintMore
open Go.Proofs.YtangahcilefelaaV
attribute [local go_sem] max2_int min2_int max_two min_two max_three min_three max_four min_four   -- for this text's walks alone
set_option linter.unusedVariables false
set_option linter.unusedSimpArgs false

/-! ### portreevelaw08_FrameShort: function 3 -/
mutual
def portreevelaw08_FrameShort.j0 : Nat → Bool → List Int → List Int → Int → Int → Int → List Int → Option (Bool)
 | 0, _, _, _, _, _, _, _ => none
 | k + 1, x3, x4, x6, x7, x8, x216000, x216001 => if x216000 = 49185 then (portreevelaw08_FrameShort.j1 k x3 x4 x6 x7 0 x216000 x216001) else (portreevelaw08_FrameShort.j1 k x3 x4 x6 x7 x8 x216000 x216001)
def portreevelaw08_FrameShort.j1 : Nat → Bool → List Int → List Int → Int → Int → Int → List Int → Option (Bool)
 | 0, _, _, _, _, _, _, _ => none
 | k + 1, x3, x4, x6, x7, x8, x216000, x216001 => if x3 = true then (if x7 = 0 then (if (x4.length : Int) = (wrap64 ((x216001.length : Int) + 6)) then (if (x6.length : Int) = (wrap64 ((x4.length : Int) - x8)) then (if 4 ≤ (wrap64 (4 + (x216001.length : Int))) then (if (wrap64 (4 + (x216001.length : Int))) ≤ (x4.length : Int) then ((portreeveref01_Row.f k ((x4.take ((wrap64 (4 + (x216001.length : Int))) : Int).toNat).drop 4) x216001).bind fun t229 => (if t229 = true then (if 0 ≤ (wrap64 (4 - x8)) then (if (wrap64 (4 - x8)) ≤ (wrap64 ((wrap64 (4 - x8)) + (x216001.length : Int))) then (if (wrap64 ((wrap64 (4 - x8)) + (x216001.length : Int))) ≤ (x6.length : Int) then ((portreeveref01_Row.f k ((x6.take ((wrap64 ((wrap64 (4 - x8)) + (x216001.length : Int))) : Int).toNat).drop ((wrap64 (4 - x8)) : Int).toNat) x216001).bind fun t234 => (some t234)) else (none)) else (none)) else (none)) else (some false))) else (none)) else (none)) else (some false)) else (some false)) else (some false)) else (some false)
end
def portreevelaw08_FrameShort.f (k : Nat) (a0_0 : Int) (l0_1 : List Int) : Option (Bool) := (portreevelaw08_shown.f k).bind fun t216 => (if (l0_1.length : Int) > 1500 then (some t216) else ((frame_Bytes.f k a0_0 l0_1 false).bind fun bt217 => ((frame_Bytes.f k a0_0 l0_1 true).bind fun bt221 => (if bt217.2 = 0 then (if a0_0 < 256 then (portreevelaw08_FrameShort.j0 k t216 bt217.1 bt221.1 bt221.2 3 a0_0 l0_1) else (portreevelaw08_FrameShort.j0 k t216 bt217.1 bt221.1 bt221.2 2 a0_0 l0_1)) else (if t216 = true then (if bt221.2 = bt217.2 then (some ((wrap64 ((bt217.1.length : Int) + (bt221.1.length : Int))) == 0)) else (some false)) else (some false))))))
theorem portreevelaw08_FrameShort.mono_l : ∀ k, (∀ y0 y1 y2 y3 y4 y5 y6, LeO (portreevelaw08_FrameShort.j0 k y0 y1 y2 y3 y4 y5 y6) (portreevelaw08_FrameShort.j0 (k + 1) y0 y1 y2 y3 y4 y5 y6)) ∧ (∀ y0 y1 y2 y3 y4 y5 y6, LeO (portreevelaw08_FrameShort.j1 k y0 y1 y2 y3 y4 y5 y6) (portreevelaw08_FrameShort.j1 (k + 1) y0 y1 y2 y3 y4 y5 y6))
 | 0 => ⟨fun _ _ _ _ _ _ _ r h => by simp [portreevelaw08_FrameShort.j0] at h, fun _ _ _ _ _ _ _ r h => by simp [portreevelaw08_FrameShort.j1] at h⟩
 | k + 1 => by
  obtain ⟨ih0, ih1⟩ := portreevelaw08_FrameShort.mono_l k
  refine ⟨?_, ?_⟩
  ·intro y0 y1 y2 y3 y4 y5 y6
   unfold portreevelaw08_FrameShort.j0
   repeat' first
   | (with_reducible exact ih0 _ _ _ _ _ _ _)
   | (with_reducible exact ih1 _ _ _ _ _ _ _)
   | (with_reducible exact frame_Bytes.mono _ _ _ _)
   | (with_reducible exact portreevelaw08_shown.mono _)
   | (with_reducible exact portreeveref01_Row.mono _ _ _)
   | (with_reducible exact LeO.refl _)
   | (with_reducible exact LeO.none _)
   | (with_reducible refine LeO.ite ?_ ?_)
   | (with_reducible refine LeO.bind ?_ (fun _ => ?_))
   | exact ih0 _ _ _ _ _ _ _
   | exact ih1 _ _ _ _ _ _ _
   | exact frame_Bytes.mono _ _ _ _
   | exact portreevelaw08_shown.mono _
   | exact portreeveref01_Row.mono _ _ _
   | exact LeO.none _
   | refine LeO.ite ?_ ?_
   | refine LeO.bind ?_ (fun _ => ?_)
  ·intro y0 y1 y2 y3 y4 y5 y6
   unfold portreevelaw08_FrameShort.j1
   repeat' first
   | (with_reducible exact ih0 _ _ _ _ _ _ _)
   | (with_reducible exact ih1 _ _ _ _ _ _ _)
   | (with_reducible exact frame_Bytes.mono _ _ _ _)
   | (with_reducible exact portreevelaw08_shown.mono _)
   | (with_reducible exact portreeveref01_Row.mono _ _ _)
   | (with_reducible exact LeO.refl _)
   | (with_reducible exact LeO.none _)
   | (with_reducible refine LeO.ite ?_ ?_)
   | (with_reducible refine LeO.bind ?_ (fun _ => ?_))
   | exact ih0 _ _ _ _ _ _ _
   | exact ih1 _ _ _ _ _ _ _
   | exact frame_Bytes.mono _ _ _ _
   | exact portreevelaw08_shown.mono _
   | exact portreeveref01_Row.mono _ _ _
   | exact LeO.none _
   | refine LeO.ite ?_ ?_
   | refine LeO.bind ?_ (fun _ => ?_)
theorem portreevelaw08_FrameShort.mono : ∀ a0 a1 k, LeO (portreevelaw08_FrameShort.f k a0 a1) (portreevelaw08_FrameShort.f (k + 1) a0 a1) := by
 intro a0 a1 k
 obtain ⟨ih0, ih1⟩ := portreevelaw08_FrameShort.mono_l k
 unfold portreevelaw08_FrameShort.f
 repeat' first
   | (with_reducible exact ih0 _ _ _ _ _ _ _)
   | (with_reducible exact ih1 _ _ _ _ _ _ _)
   | (with_reducible exact frame_Bytes.mono _ _ _ _)
   | (with_reducible exact portreevelaw08_shown.mono _)
   | (with_reducible exact portreeveref01_Row.mono _ _ _)
   | (with_reducible exact LeO.refl _)
   | (with_reducible exact LeO.none _)
   | (with_reducible refine LeO.ite ?_ ?_)
   | (with_reducible refine LeO.bind ?_ (fun _ => ?_))
   | exact ih0 _ _ _ _ _ _ _
   | exact ih1 _ _ _ _ _ _ _
   | exact frame_Bytes.mono _ _ _ _
   | exact portreevelaw08_shown.mono _
   | exact portreeveref01_Row.mono _ _ _
   | exact LeO.none _
   | refine LeO.ite ?_ ?_
   | refine LeO.bind ?_ (fun _ => ?_)
def portreevelaw08_FrameShort.T14 : Bool × List (List Nat × List Nat) := (true, [([], []), ([0], [0]), ([1], [1]), ([2, 1], [1, 2]), ([1, 3], [1, 3]), ([4, 1], [4]), ([5], [5]), ([6, 5], [5, 6]), ([5], [5]), ([8, 5], [5, 8]), ([7, 9, 5], [5, 7, 9]), ([5, 10], [5, 10]), ([11, 5], [11]), ([12], [12]), ([13, 12], [12, 13]), ([12], [12]), ([15, 12], [12, 15]), ([12], [12]), ([16, 17, 12], [12, 16, 17]), ([14, 18, 12], [12, 14, 18]), ([12, 19], [12, 19]), ([20, 12], [20]), ([21], [21]), ([21], [21]), ([23, 21], [21, 23]), ([22, 24, 21], [21, 22, 24]), ([21], [21]), ([26, 21], [21, 26]), ([25, 27, 21, 21], [21, 25, 27]), ([21, 28], [21, 28]), ([29, 28], [29]), ([30], [30]), ([30], [30]), ([32, 30], [30, 32]), ([30], [30]), ([34, 30], [30, 34]), ([30], [30]), ([35, 36, 30], [30, 35, 36]), ([31, 33, 37, 30], [30, 31, 33, 37]), ([30], [30]), ([39, 30], [30, 39]), ([38, 40, 30, 30], [30, 38, 40]), ([30, 41], [30, 41]), ([42, 41, 0, 1, 2, 3, 4, 5, 6, 7, 8, 9, 10, 11, 12, 13, 14, 15, 16, 17, 18, 19, 20, 21, 22, 23, 24, 25, 26, 27, 28, 29, 30, 31, 32, 33, 34, 35, 36, 37, 38, 39, 40, 41, 42], [42])])
def portreevelaw08_FrameShort.B14 : List Nat := [0, 1, 3, 7, 15, 31, 63, 127, 63, 319, 1023, 2047, 4095, 8191, 16383, 8191, 40959, 8191, 237567, 524287, 1048575, 2097151, 4194303, 4194303, 12582911, 33554431, 4194303, 71303167, 268435455, 536870911, 1073741823, 2147483647, 2147483647, 6442450943, 2147483647, 19327352831, 2147483647, 122406567935, 274877906943, 2147483647, 551903297535, 2199023255551, 4398046511103, 8796093022207]
theorem portreevelaw08_FrameShort.tab14 : rtab .any (opsOf Try.f3 14) = portreevelaw08_FrameShort.T14 := by kernel_rfl
theorem portreevelaw08_FrameShort.bits14 : waitsOk portreevelaw08_FrameShort.T14.2 portreevelaw08_FrameShort.B14 = true := by kernel_rfl
set_option maxHeartbeats 8000000 in
set_option maxRecDepth 100000 in
theorem portreevelaw08_FrameShort.calls (k : Nat) (a0_0 : Int) (A0_1 : Option Addr) (c0_1 : Nat) (l0_1 : List Int) (r : Bool) (w : World) (hlaw_ : Aside0 (r = true)) (hr0_1 : Kd.C (Kd.int .u8) w A0_1 l0_1.length l0_1) (hc0_1 : l0_1.length ≤ c0_1) (h : portreevelaw08_FrameShort.f k a0_0 l0_1 = some r) :
  Calls Try.prog 3 #[.agg #[.int .u16 a0_0, .slice A0_1 l0_1.length c0_1]] w fun e w' => e = .returned (.bool r) ∧ Below w.heap.size w w' := by
 have hu25 := Try.underlying25
 have HR0_1 := Aside0.mk hr0_1
 have HC0_1 := Aside0.mk hc0_1
 clear hr0_1 hc0_1
 have HB := Aside0.mk (Below.refl w.heap.size w)
 have H : ((portreevelaw08_shown.f k).bind fun t216 => (if (l0_1.length : Int) > 1500 then (some t216) else ((frame_Bytes.f k a0_0 l0_1 false).bind fun bt217 => ((frame_Bytes.f k a0_0 l0_1 true).bind fun bt221 => (if bt217.2 = 0 then (if a0_0 < 256 then (portreevelaw08_FrameShort.j0 k t216 bt217.1 bt221.1 bt221.2 3 a0_0 l0_1) else (portreevelaw08_FrameShort.j0 k t216 bt217.1 bt221.1 bt221.2 2 a0_0 l0_1)) else (if t216 = true then (if bt221.2 = bt217.2 then (some ((wrap64 ((bt217.1.length : Int) + (bt221.1.length : Int))) == 0)) else (some false)) else (some false))))))) = some r := h
 clear h
 replace H := Option.bind_eq_some_iff.mp H
 obtain ⟨t216, A20, H⟩ := H
 replace H : (if (l0_1.length : Int) > 1500 then (some t216) else ((frame_Bytes.f k a0_0 l0_1 false).bind fun bt217 => ((frame_Bytes.f k a0_0 l0_1 true).bind fun bt221 => (if bt217.2 = 0 then (if a0_0 < 256 then (portreevelaw08_FrameShort.j0 k t216 bt217.1 bt221.1 bt221.2 3 a0_0 l0_1) else (portreevelaw08_FrameShort.j0 k t216 bt217.1 bt221.1 bt221.2 2 a0_0 l0_1)) else (if t216 = true then (if bt221.2 = bt217.2 then (some ((wrap64 ((bt217.1.length : Int) + (bt221.1.length : Int))) == 0)) else (some false)) else (some false)))))) = some r := H
 have A2 := Aside0.mk A20
 clear A20
 by_cases c3 : (l0_1.length : Int) > 1500
 ·rw [if_pos c3] at H
  have c3b0 : decide (1500 < (l0_1.length : Int)) = true := decide_eq_true c3
  have c3b1 : decide (1500 < l0_1.length) = true := decide_eq_true (by omega)
  clear c3
  clear hlaw_
  obtain rfl := Option.some.inj H
  go_enter Try.func3, Try.ntmps3
  go_wp2_with (first | ((with_reducible refine gate_dst (N := 1) rfl ?_); (try (refine gate_guard (by rfl) ?_; dsimp only)); refine box_event ?hg (N := 1) ?hd (cs := #[.int .u16 a0_0, .slice A0_1 l0_1.length c0_1]) (t := 25) ?hr ?_; (case hd => rfl); (case hg => rfl); (case hr => first | (go_simp; done) | (go_simp; rfl)); intro gb215 hg w4 hbox hb; have n0_ := Aside0.mk (below_step (zH HB.out) hb); have n1_ := Aside0.mk (hbox); have n2_ := Aside0.mk ((by rw [hg]; exact (below_size (zH HB.out)) : w.heap.size ≤ gb215)); have n3_ := Aside0.mk ((by rw [hg]; exact (below_size (zH HB.out)) : w.heap.size ≤ gb215)); clear HB; have HB := n0_; have BK215 := n1_; have GW215 := n2_; have GE215 := n3_; clear n0_ n1_ n2_ n3_; clear hb hbox hg) | ((with_reducible refine gate_callee (f := 8) rfl ?_); refine goesL_ (some 10) rfl rfl Try.func8 (by kernel_rfl) rfl #[] rfl (by (try simp only [List.map_toArray, List.map_cons, List.map_nil]); first | done | rfl | (simp only [List.length_drop, List.length_take]; rfl)) ?_; (with_reducible refine (portreevelaw08_shown.calls k  t216 _ A2.out).mono ?_); rintro e w5 ⟨rfl, hb⟩; refine ⟨_, rfl, ?_⟩; have n0_ := Aside0.mk (blk_below (g := gb215) (o := .cells #[.int .u16 a0_0, .slice A0_1 l0_1.length c0_1] 25 (0, 0)) (zB BK215.out) hb); have n1_ := Aside0.mk (below_step (by repeat (first | (with_reducible first | exact HB.out | apply pA | apply pN | apply pD | refine pS ?_ GE215.out) | exact HB.out)) hb); clear BK215; clear HB; have BK215 := n0_; have HB := n1_; clear n0_ n1_; (try clear hb); (try clear hb2); (try clear hk); (try clear hi); obtain ⟨hcz6_0, hcz6_1, hfz6_0, hfz6_1⟩ := bk2 BK215.out))
  go_ret
  exact ⟨by first | rfl | (simp [errW_none, errW_some] <;> rfl) | (simp [*, errW_none, errW_some] <;> rfl), by repeat (first | (with_reducible first | exact HB.out | apply pA | apply pN | apply pD | refine pS ?_ GE215.out) | exact HB.out)⟩
 ·rw [if_neg c3] at H
  have c3b0 : decide (1500 < (l0_1.length : Int)) = false := decide_eq_false c3
  have c3b1 : decide (1500 < l0_1.length) = false := decide_eq_false (by omega)
  clear c3
  replace H := Option.bind_eq_some_iff.mp H
  obtain ⟨⟨t217, t220⟩, A70, H⟩ := H
  replace H : ((frame_Bytes.f k a0_0 l0_1 true).bind fun bt221 => (if t220 = 0 then (if a0_0 < 256 then (portreevelaw08_FrameShort.j0 k t216 t217 bt221.1 bt221.2 3 a0_0 l0_1) else (portreevelaw08_FrameShort.j0 k t216 t217 bt221.1 bt221.2 2 a0_0 l0_1)) else (if t216 = true then (if bt221.2 = t220 then (some ((wrap64 ((t217.length : Int) + (bt221.1.length : Int))) == 0)) else (some false)) else (some false)))) = some r := H
  have A7 := Aside0.mk A70
  clear A70
  replace H := Option.bind_eq_some_iff.mp H
  obtain ⟨⟨t221, t224⟩, A80, H⟩ := H
  replace H : (if t220 = 0 then (if a0_0 < 256 then (portreevelaw08_FrameShort.j0 k t216 t217 t221 t224 3 a0_0 l0_1) else (portreevelaw08_FrameShort.j0 k t216 t217 t221 t224 2 a0_0 l0_1)) else (if t216 = true then (if t224 = t220 then (some ((wrap64 ((t217.length : Int) + (t221.length : Int))) == 0)) else (some false)) else (some false))) = some r := H
  have A8 := Aside0.mk A80
  clear A80
  by_cases c9 : t220 = 0
  ·rw [if_pos c9] at H
   have c9b0 : (t220 == 0) = true := beq_iff_eq.mpr c9
   have c9b1 : (t220 != 0) = false := bne_eq_false_iff_eq.mpr c9
   clear c9
   have HC10 := Aside0.mk H
   clear H
   go_enter Try.func3, Try.ntmps3
   go_upto_if 44 with (first | ((with_reducible refine gate_dst (N := 1) rfl ?_); (try (refine gate_guard (by rfl) ?_; dsimp only)); refine box_event ?hg (N := 1) ?hd (cs := #[.int .u16 a0_0, .slice A0_1 l0_1.length c0_1]) (t := 25) ?hr ?_; (case hd => rfl); (case hg => rfl); (case hr => first | (go_simp; done) | (go_simp; rfl)); intro gb215 hg w11 hbox hb; have n0_ := Aside0.mk (below_step (zH HB.out) hb); have n1_ := Aside0.mk (hbox); have n2_ := Aside0.mk ((by rw [hg]; exact (below_size (zH HB.out)) : w.heap.size ≤ gb215)); have n3_ := Aside0.mk ((by rw [hg]; exact (below_size (zH HB.out)) : w.heap.size ≤ gb215)); clear HB; have HB := n0_; have BK215 := n1_; have GW215 := n2_; have GE215 := n3_; clear n0_ n1_ n2_ n3_; clear hb hbox hg) | ((with_reducible refine gate_callee (f := 8) rfl ?_); refine goesL_ (some 10) rfl rfl Try.func8 (by kernel_rfl) rfl #[] rfl (by (try simp only [List.map_toArray, List.map_cons, List.map_nil]); first | done | rfl | (simp only [List.length_drop, List.length_take]; rfl)) ?_; (with_reducible refine (portreevelaw08_shown.calls k  t216 _ A2.out).mono ?_); rintro e w12 ⟨rfl, hb⟩; refine ⟨_, rfl, ?_⟩; have n0_ := Aside0.mk (blk_below (g := gb215) (o := .cells #[.int .u16 a0_0, .slice A0_1 l0_1.length c0_1] 25 (0, 0)) (zB BK215.out) hb); have n1_ := Aside0.mk (below_step (by repeat (first | (with_reducible first | exact HB.out | apply pA | apply pN | apply pD | refine pS ?_ GE215.out) | exact HB.out)) hb); clear BK215; clear HB; have BK215 := n0_; have HB := n1_; clear n0_ n1_; (try clear hb); (try clear hb2); (try clear hk); (try clear hi); obtain ⟨hcz13_0, hcz13_1, hfz13_0, hfz13_1⟩ := bk2 BK215.out) | ((with_reducible refine gate_callee (f := 9) rfl ?_); refine goesL_ (some 18) rfl rfl Try.func9 (by kernel_rfl) rfl #[.agg #[.int .u16 a0_0, .slice A0_1 l0_1.length c0_1], .bool false] rfl (by (try simp only [List.map_toArray, List.map_cons, List.map_nil]); first | done | rfl | (simp only [List.length_drop, List.length_take]; rfl)) ?_; (with_reducible refine (frame_Bytes.calls k a0_0 _ _ l0_1 false t217 t220 _ ?side1 ?side2 A7.out).mono ?_); (case side1 => repeat (first | exact (Kd.C_below HR0_1.out HB.out) | (with_reducible refine Kd.C_alloc ?_ _) | (with_reducible refine Kd.C_drewN ?_ _) | (with_reducible refine Kd.C_drew ?_))); (case side2 => exact HC0_1.out); rintro e w14 ⟨v218, rfl, ho0, hb⟩; refine ⟨_, rfl, ?_⟩; have n0_ := Aside0.mk (Kd.R_lower ho0 (below_size (by repeat (first | (with_reducible first | exact HB.out | apply pA | apply pN | apply pD | refine pS ?_ GE215.out) | exact HB.out)))); have n1_ := Aside0.mk (blk_below (g := gb215) (o := .cells #[.int .u16 a0_0, .slice A0_1 l0_1.length c0_1] 25 (0, 0)) (zB BK215.out) hb); have n2_ := Aside0.mk (below_step (by repeat (first | (with_reducible first | exact HB.out | apply pA | apply pN | apply pD | refine pS ?_ GE215.out) | exact HB.out)) hb); clear BK215; clear HB; have HO219 := n0_; have BK215 := n1_; have HB := n2_; clear n0_ n1_ n2_; (try clear hb); (try clear hb2); (try clear hk); (try clear hi); (try clear ho0); obtain ⟨hcz15_0, hcz15_1, hfz15_0, hfz15_1⟩ := bk2 BK215.out) | ((with_reducible refine gate_callee (f := 9) rfl ?_); refine goesL_ (some 23) rfl rfl Try.func9 (by kernel_rfl) rfl #[.agg #[.int .u16 a0_0, .slice A0_1 l0_1.length c0_1], .bool true] rfl (by (try simp only [List.map_toArray, List.map_cons, List.map_nil]); first | done | rfl | (simp only [List.length_drop, List.length_take]; rfl)) ?_; (with_reducible refine (frame_Bytes.calls k a0_0 _ _ l0_1 true t221 t224 _ ?side1 ?side2 A8.out).mono ?_); (case side1 => repeat (first | exact (Kd.C_below HR0_1.out HB.out) | (with_reducible refine Kd.C_alloc ?_ _) | (with_reducible refine Kd.C_drewN ?_ _) | (with_reducible refine Kd.C_drew ?_))); (case side2 => exact HC0_1.out); rintro e w16 ⟨v222, rfl, ho0, hb⟩; refine ⟨_, rfl, ?_⟩; have n0_ := Aside0.mk (Kd.R_elder' (zR HO219.out) (Kd.R_base ho0) hb); have n1_ := Aside0.mk (Kd.R_lower (Kd.R_new' ho0 (Kd.R_lt (zR HO219.out))) (below_size (by repeat (first | (with_reducible first | exact HB.out | apply pA | apply pN | apply pD | refine pS ?_ GE215.out) | exact HB.out)))); have n2_ := Aside0.mk (blk_below (g := gb215) (o := .cells #[.int .u16 a0_0, .slice A0_1 l0_1.length c0_1] 25 (0, 0)) (zB BK215.out) hb); have n3_ := Aside0.mk (below_step (by repeat (first | (with_reducible first | exact HB.out | apply pA | apply pN | apply pD | refine pS ?_ GE215.out) | exact HB.out)) hb); clear HO219; clear BK215; clear HB; have HO219 := n0_; have HO223 := n1_; have BK215 := n2_; have HB := n3_; clear n0_ n1_ n2_ n3_; (try clear hb); (try clear hb2); (try clear hk); (try clear hi); (try clear ho0); obtain ⟨hcz17_0, hcz17_1, hfz17_0, hfz17_1⟩ := bk2 BK215.out))
   (try simp only [Act.put, sT, s0, s1])
   go_cut [8] (fun v8 wc => ∃ (kq : Nat) (x8_9 : Int), v8 = .int .i64 x8_9 ∧ Aside0 (portreevelaw08_FrameShort.j0 kq t216 t217 t221 t224 x8_9 a0_0 l0_1 = some r) ∧ Aside0 (kq ≤ k) ∧ Aside0 (Kd.R (Kd.int .u8) 5 wc w.heap.size (fun k_ => some k_ ≠ (v222 : Value).ownBlock) v218 t217) ∧ Aside0 (Kd.R (Kd.int .u8) 5 wc w.heap.size (fun k_ => some k_ ≠ (v218 : Value).ownBlock) v222 t221) ∧ Aside0 (wc.heap[gb215]? = some (.cells #[.int .u16 a0_0, (.slice A0_1 l0_1.length c0_1)] 25 (0, 0))) ∧ Aside0 (Below w.heap.size w wc))
   case first =>
    have H := HC10.out
    clear HC10
    by_cases c18 : a0_0 < 256
    ·rw [if_pos c18] at H
     have c18b0 : decide (a0_0 < 256) = true := decide_eq_true c18
     clear c18
     (first | rw [c18b0] | (simp only [i64_w, i32_w]; rw [c18b0]) | skip)
     have H' := Aside0.mk H
     clear H
     go_wp2
     go_meet
     case rel => exact ⟨_, (3), (by first | rfl | (simp; done) | (simp [*]; done)), H', ⟨by first | omega | exact Nat.le_refl _⟩, ⟨zR (Kd.R_mono HO219.out (fun _ hk => hk.2))⟩, ⟨zR (Kd.R_mono HO223.out (fun _ hk => hk.2))⟩, ⟨zB BK215.out⟩, ⟨by repeat (first | (with_reducible first | exact HB.out | apply pA | apply pN | apply pD | refine pS ?_ GE215.out) | exact HB.out)⟩⟩
    ·rw [if_neg c18] at H
     have c18b0 : decide (a0_0 < 256) = false := decide_eq_false c18
     clear c18
     (first | rw [c18b0] | (simp only [i64_w, i32_w]; rw [c18b0]) | skip)
     have H' := Aside0.mk H
     clear H
     go_wp2
     go_meet
     case rel => exact ⟨_, (2), (by first | rfl | (simp; done) | (simp [*]; done)), H', ⟨by first | omega | exact Nat.le_refl _⟩, ⟨zR (Kd.R_mono HO219.out (fun _ hk => hk.2))⟩, ⟨zR (Kd.R_mono HO223.out (fun _ hk => hk.2))⟩, ⟨zB BK215.out⟩, ⟨by repeat (first | (with_reducible first | exact HB.out | apply pA | apply pN | apply pD | refine pS ?_ GE215.out) | exact HB.out)⟩⟩
   case rest =>
    clear HC10
    try clear c1
    try clear p2
    try clear c3
    try clear c3b0
    try clear c3b1
    try clear p6
    try clear c8
    try clear c9
    try clear c9b0
    try clear c9b1
    try clear c18
    try clear c18b0
    try clear hcz13_0
    try clear hcz13_1
    try clear hcz15_0
    try clear hcz15_1
    try clear hcz17_0
    try clear hcz17_1
    try clear hcz6_0
    try clear hcz6_1
    try clear hfz13_0
    try clear hfz13_1
    try clear hfz15_0
    try clear hfz15_1
    try clear hfz17_0
    try clear hfz17_1
    try clear hfz6_0
    try clear hfz6_1
    obtain ⟨kq, x8_9, rfl, HA, HJ9, HO_4, HO_6, BK215, HB⟩ := hcut
    cases kq with
    | zero => exact absurd HA.out (by simp [portreevelaw08_FrameShort.j0])
    | succ kj9 =>
     have H := HA.out
     clear HA
     simp only [portreevelaw08_FrameShort.j0] at H
     have HC19 := Aside0.mk H
     clear H
     obtain ⟨hcz20_0, hcz20_1, hfz20_0, hfz20_1⟩ := bk2 BK215.out
     go_upto_if 47 with (fail)
     go_cut [8] (fun v8 wc => ∃ (kq : Nat) (x8_18 : Int), v8 = .int .i64 x8_18 ∧ Aside0 (portreevelaw08_FrameShort.j1 kq t216 t217 t221 t224 x8_18 a0_0 l0_1 = some r) ∧ Aside0 (kq ≤ kj9) ∧ Aside0 (Kd.R (Kd.int .u8) 5 wc w.heap.size (fun k_ => some k_ ≠ (v222 : Value).ownBlock) v218 t217) ∧ Aside0 (Kd.R (Kd.int .u8) 5 wc w.heap.size (fun k_ => some k_ ≠ (v218 : Value).ownBlock) v222 t221) ∧ Aside0 (wc.heap[gb215]? = some (.cells #[.int .u16 a0_0, (.slice A0_1 l0_1.length c0_1)] 25 (0, 0))) ∧ Aside0 (Below w.heap.size w wc))
     case first =>
      have H := HC19.out
      clear HC19
      by_cases c21 : a0_0 = 49185
      ·rw [if_pos c21] at H
       have c21b0 : (a0_0 == 49185) = true := beq_iff_eq.mpr c21
       have c21b1 : (a0_0 != 49185) = false := bne_eq_false_iff_eq.mpr c21
       clear c21
       (first | rw [c21b0] | (simp only [i64_w, i32_w]; rw [c21b0]) | skip)
       have H' := Aside0.mk H
       clear H
       go_wp2
       go_meet
       case rel => exact ⟨_, (0), (by first | rfl | (simp; done) | (simp [*]; done)), H', ⟨by have := HJ9.out; first | omega | exact Nat.le_refl _⟩, ⟨zR HO_4.out⟩, ⟨zR HO_6.out⟩, ⟨zB BK215.out⟩, ⟨by repeat (first | (with_reducible first | exact HB.out | apply pA | apply pN | apply pD | refine pS ?_ GE215.out) | exact HB.out)⟩⟩
      ·rw [if_neg c21] at H
       have c21b0 : (a0_0 == 49185) = false := beq_eq_false_iff_ne.mpr c21
       have c21b1 : (a0_0 != 49185) = true := bne_iff_ne.mpr c21
       (first | rw [c21b0] | (simp only [i64_w, i32_w]; rw [c21b0]) | skip)
       have H' := Aside0.mk H
       clear H
       go_wp2
       go_meet
       case rel => exact ⟨_, (x8_9), (by first | rfl | (simp; done) | (simp [*]; done)), H', ⟨by have := HJ9.out; first | omega | exact Nat.le_refl _⟩, ⟨zR HO_4.out⟩, ⟨zR HO_6.out⟩, ⟨zB BK215.out⟩, ⟨by repeat (first | (with_reducible first | exact HB.out | apply pA | apply pN | apply pD | refine pS ?_ GE215.out) | exact HB.out)⟩⟩
     case rest =>
      clear HC19
      try clear c1
      try clear c2
      try clear p2
      try clear c3
      try clear c3b0
      try clear c3b1
      try clear p6
      try clear c8
      try clear c9
      try clear c9b0
      try clear c9b1
      try clear c18
      try clear c18b0
      try clear c21
      try clear c21b0
      try clear c21b1
      try clear hcz13_0
      try clear hcz13_1
      try clear hcz15_0
      try clear hcz15_1
      try clear hcz17_0
      try clear hcz17_1
      try clear hcz20_0
      try clear hcz20_1
      try clear hcz6_0
      try clear hcz6_1
      try clear hfz13_0
      try clear hfz13_1
      try clear hfz15_0
      try clear hfz15_1
      try clear hfz17_0
      try clear hfz17_1
      try clear hfz20_0
      try clear hfz20_1
      try clear hfz6_0
      try clear hfz6_1
      try clear p2
      try clear p6
      obtain ⟨kq, x8_18, rfl, HA, HJ18, HO_4, HO_6, BK215, HB⟩ := hcut
      cases kq with
      | zero => exact absurd HA.out (by simp [portreevelaw08_FrameShort.j1])
      | succ kj18 =>
       have H := HA.out
       clear HA
       simp only [portreevelaw08_FrameShort.j1] at H
       by_cases c22 : t216 = true
       ·subst c22
        have H1 : (if t224 = 0 then (if (t217.length : Int) = (wrap64 ((l0_1.length : Int) + 6)) then (if (t221.length : Int) = (wrap64 ((t217.length : Int) - x8_18)) then (if 4 ≤ (wrap64 (4 + (l0_1.length : Int))) then (if (wrap64 (4 + (l0_1.length : Int))) ≤ (t217.length : Int) then ((portreeveref01_Row.f kj18 ((t217.take ((wrap64 (4 + (l0_1.length : Int))) : Int).toNat).drop 4) l0_1).bind fun t229 => (if t229 = true then (if 0 ≤ (wrap64 (4 - x8_18)) then (if (wrap64 (4 - x8_18)) ≤ (wrap64 ((wrap64 (4 - x8_18)) + (l0_1.length : Int))) then (if (wrap64 ((wrap64 (4 - x8_18)) + (l0_1.length : Int))) ≤ (t221.length : Int) then ((portreeveref01_Row.f kj18 ((t221.take ((wrap64 ((wrap64 (4 - x8_18)) + (l0_1.length : Int))) : Int).toNat).drop ((wrap64 (4 - x8_18)) : Int).toNat) l0_1).bind fun t234 => (some t234)) else (none)) else (none)) else (none)) else (some false))) else (none)) else (none)) else (some false)) else (some false)) else (some false)) = some r := by rw [if_pos rfl] at H; exact H
        clear H
        have H := H1
        clear H1
        by_cases c23 : t224 = 0
        ·rw [if_pos c23] at H
         have c23b0 : (t224 == 0) = true := beq_iff_eq.mpr c23
         have c23b1 : (t224 != 0) = false := bne_eq_false_iff_eq.mpr c23
         clear c23
         by_cases c24 : (t217.length : Int) = (wrap64 ((l0_1.length : Int) + 6))
         ·rw [if_pos c24] at H
          have c24b0 : ((t217.length : Int) == (wrap64 ((l0_1.length : Int) + 6))) = true := beq_iff_eq.mpr c24
          have c24b1 : ((t217.length : Int) != (wrap64 ((l0_1.length : Int) + 6))) = false := bne_eq_false_iff_eq.mpr c24
          clear c24
          by_cases c25 : (t221.length : Int) = (wrap64 ((t217.length : Int) - x8_18))
          ·rw [if_pos c25] at H
           have c25b0 : ((t221.length : Int) == (wrap64 ((t217.length : Int) - x8_18))) = true := beq_iff_eq.mpr c25
           have c25b1 : ((t221.length : Int) != (wrap64 ((t217.length : Int) - x8_18))) = false := bne_eq_false_iff_eq.mpr c25
           clear c25
           by_cases c26 : 4 ≤ (wrap64 (4 + (l0_1.length : Int)))
           ·rw [if_pos c26] at H
            have c26b0 := eq_true c26
            have c26b1 : decide (4 ≤ (wrap64 (4 + (l0_1.length : Int)))) = true := decide_eq_true c26
            by_cases c27 : (wrap64 (4 + (l0_1.length : Int))) ≤ (t217.length : Int)
            ·rw [if_pos c27] at H
             have c27b0 := eq_true c27
             have c27b1 : decide ((wrap64 (4 + (l0_1.length : Int))) ≤ (t217.length : Int)) = true := decide_eq_true c27
             obtain ⟨y225, hy225⟩ : ∃ y_ : List Int, y_ = ((t217.take ((wrap64 (4 + (l0_1.length : Int))) : Int).toNat).drop 4) := ⟨_, rfl⟩
             replace H : ((portreeveref01_Row.f kj18 y225 l0_1).bind fun t229 => (if t229 = true then (if 0 ≤ (wrap64 (4 - x8_18)) then (if (wrap64 (4 - x8_18)) ≤ (wrap64 ((wrap64 (4 - x8_18)) + (l0_1.length : Int))) then (if (wrap64 ((wrap64 (4 - x8_18)) + (l0_1.length : Int))) ≤ (t221.length : Int) then ((portreeveref01_Row.f kj18 ((t221.take ((wrap64 ((wrap64 (4 - x8_18)) + (l0_1.length : Int))) : Int).toNat).drop ((wrap64 (4 - x8_18)) : Int).toNat) l0_1).bind fun t234 => (some t234)) else (none)) else (none)) else (none)) else (some false))) = some r := by first | (rw [hy225]; with_reducible exact H) | (have H2_ := (Option.bind_some _ _).symm.trans H; rw [hy225]; with_reducible exact H2_) | (have H2_ := (Option.bind_some _ _).symm.trans H; with_reducible exact H2_) | with_reducible exact H | (rw [hy225]; exact H) | exact H
             have Ny225 := Aside0.mk hy225
             clear hy225
             replace H := Option.bind_eq_some_iff.mp H
             obtain ⟨t229, A280, H⟩ := H
             replace H : (if t229 = true then (if 0 ≤ (wrap64 (4 - x8_18)) then (if (wrap64 (4 - x8_18)) ≤ (wrap64 ((wrap64 (4 - x8_18)) + (l0_1.length : Int))) then (if (wrap64 ((wrap64 (4 - x8_18)) + (l0_1.length : Int))) ≤ (t221.length : Int) then ((portreeveref01_Row.f kj18 ((t221.take ((wrap64 ((wrap64 (4 - x8_18)) + (l0_1.length : Int))) : Int).toNat).drop ((wrap64 (4 - x8_18)) : Int).toNat) l0_1).bind fun t234 => (some t234)) else (none)) else (none)) else (none)) else (some false)) = some r := H
             have A28 := Aside0.mk A280
             clear A280
             by_cases c29 : t229 = true
             ·subst c29
              have H1 : (if 0 ≤ (wrap64 (4 - x8_18)) then (if (wrap64 (4 - x8_18)) ≤ (wrap64 ((wrap64 (4 - x8_18)) + (l0_1.length : Int))) then (if (wrap64 ((wrap64 (4 - x8_18)) + (l0_1.length : Int))) ≤ (t221.length : Int) then ((portreeveref01_Row.f kj18 ((t221.take ((wrap64 ((wrap64 (4 - x8_18)) + (l0_1.length : Int))) : Int).toNat).drop ((wrap64 (4 - x8_18)) : Int).toNat) l0_1).bind fun t234 => (some t234)) else (none)) else (none)) else (none)) = some r := by rw [if_pos rfl] at H; exact H
              clear H
              have H := H1
              clear H1
              obtain ⟨ji30, hji30⟩ : ∃ j_ : Int, (wrap64 (4 - x8_18)) = j_ := ⟨_, rfl⟩
              replace H : (if 0 ≤ (ji30) then (if (ji30) ≤ (wrap64 ((ji30) + (l0_1.length : Int))) then (if (wrap64 ((ji30) + (l0_1.length : Int))) ≤ (t221.length : Int) then ((portreeveref01_Row.f kj18 ((t221.take ((wrap64 ((ji30) + (l0_1.length : Int))) : Int).toNat).drop ((ji30) : Int).toNat) l0_1).bind fun t234 => (some t234)) else (none)) else (none)) else (none)) = some r := by first | (rw [hji30] at H; exact H) | (simp only [hji30] at H ⊢; exact H)
              (try rw [hji30] at A28)
              have hji30w : (IntKind.i64.wrap (4 - x8_18)) = ji30 := (i64_w _).trans hji30
              by_cases c31 : 0 ≤ (ji30)
              ·rw [if_pos c31] at H
               have c31b0 := eq_true c31
               have c31b1 : decide (0 ≤ (ji30)) = true := decide_eq_true c31
               clear c31
               by_cases c32 : (ji30) ≤ (wrap64 ((ji30) + (l0_1.length : Int)))
               ·rw [if_pos c32] at H
                have c32b0 := eq_true c32
                have c32b1 : decide ((ji30) ≤ (wrap64 ((ji30) + (l0_1.length : Int)))) = true := decide_eq_true c32
                by_cases c33 : (wrap64 ((ji30) + (l0_1.length : Int))) ≤ (t221.length : Int)
                ·rw [if_pos c33] at H
                 have c33b0 := eq_true c33
                 have c33b1 : decide ((wrap64 ((ji30) + (l0_1.length : Int))) ≤ (t221.length : Int)) = true := decide_eq_true c33
                 obtain ⟨y230, hy230⟩ : ∃ y_ : List Int, y_ = ((t221.take ((wrap64 ((ji30) + (l0_1.length : Int))) : Int).toNat).drop ((ji30) : Int).toNat) := ⟨_, rfl⟩
                 replace H : ((portreeveref01_Row.f kj18 y230 l0_1).bind fun t234 => (some t234)) = some r := by first | (rw [hy230]; with_reducible exact H) | (have H2_ := (Option.bind_some _ _).symm.trans H; rw [hy230]; with_reducible exact H2_) | (have H2_ := (Option.bind_some _ _).symm.trans H; with_reducible exact H2_) | with_reducible exact H | (rw [hy230]; exact H) | exact H
                 have Ny230 := Aside0.mk hy230
                 clear hy230
                 replace H := Option.bind_eq_some_iff.mp H
                 obtain ⟨t234, A340, H⟩ := H
                 replace H : (some t234) = some r := H
                 have A34 := Aside0.mk A340
                 clear A340
                 clear hlaw_
                 obtain rfl := Option.some.inj H
                 obtain ⟨hcz35_0, hcz35_1, hfz35_0, hfz35_1⟩ := bk2 BK215.out
                 try go_wp2
                 have n0_ := Aside0.mk (Kd.R_drew HO_4.out)
                 have n1_ := Aside0.mk (Kd.R_drew HO_6.out)
                 have n2_ := Aside0.mk (qD BK215.out)
                 have n3_ := Aside0.mk (pD HB.out)
                 clear HO_4
                 clear HO_6
                 clear BK215
                 clear HB
                 have HO_4 := n0_
                 have HO_6 := n1_
                 have BK215 := n2_
                 have HB := n3_
                 clear n0_ n1_ n2_ n3_
                 obtain ⟨Ao37, co37, eo37⟩ := Kd.R_slice HO_4.out
                 (first | subst eo37 | (injection eo37 with f1_ f2_ f3_; have f4_ := f1_.symm; have f5_ := f3_.symm; clear f1_ f2_ f3_; subst f4_; subst f5_))
                 obtain ⟨Ao38, co38, eo38⟩ := Kd.R_slice HO_6.out
                 (first | subst eo38 | (injection eo38 with f1_ f2_ f3_; have f4_ := f1_.symm; have f5_ := f3_.symm; clear f1_ f2_ f3_; subst f4_; subst f5_))
                 have q39 : ((wrap64 (4 + (l0_1.length : Int))) : Int) ≤ ((t217.length : Int) : Int) := of_decide_eq_true (by first | (with_reducible assumption) | assumption)
                 obtain ⟨i039, hi039, _, hsz39, _⟩ := info_parts info5
                 have hroom39 : t217.length ≤ co37 := (Kd.R_reads' HO_4.out).2.1
                 have hC39 : Kd.C (Kd.int .u8) _ Ao37 t217.length t217 := (Kd.R_reads' HO_4.out).2.2
                 have ql39 : (4 : Int) ≤ ((wrap64 (4 + (l0_1.length : Int))) : Int) := of_decide_eq_true (by first | (with_reducible assumption) | assumption)
                 have hcut39 := cut_mid (P := Try.prog) 23 5 .i64 .i64 Try.underlying23 hi039 1 hsz39 Ao37 t217.length co37 4 (wrap64 (4 + (l0_1.length : Int))) (by decide) ql39 q39 hroom39
                 have hr39 := Kd.C_mid (lo := (4 : Int).toNat) (hi := ((wrap64 (4 + (l0_1.length : Int))) : Int).toNat) (c := co37) hC39 (Int.toNat_le_toNat ql39) (Int.toNat_le.2 q39) hroom39
                 obtain ⟨A39, hA39⟩ : ∃ A1, A1 = (if co37 = (4 : Int).toNat then Ao37 else (Ao37 : Option Addr).map (·.add ((4 : Int).toNat * 1))) := ⟨_, rfl⟩
                 obtain ⟨c39, hc39⟩ : ∃ c1, c1 = co37 - (4 : Int).toNat := ⟨_, rfl⟩
                 have hy39 : y225.length = ((wrap64 (4 + (l0_1.length : Int))) : Int).toNat - (4 : Int).toNat := (by rw [Ny225.out, List.length_drop, List.length_take, Nat.min_eq_left (Int.toNat_le.2 q39)] <;> rfl)
                 rw [show ((t217).take ((wrap64 (4 + (l0_1.length : Int))) : Int).toNat).drop (4 : Int).toNat = y225 from Ny225.out.symm] at hr39
                 replace hr39 : Kd.C (Kd.int .u8) _ A39 y225.length y225 := (by rw [hA39]; exact hr39)
                 rw [← hy39, ← hA39, ← hc39] at hcut39
                 have HR228 := Aside0.mk hr39
                 have HC228 := Aside0.mk (show y225.length ≤ c39 from by rw [hy39, hc39]; exact Nat.sub_le_sub_right (Nat.le_trans (Int.toNat_le.2 q39) hroom39) _)
                 clear hr39 hC39 hroom39 hi039 hsz39 hc39
                 have KY39 := Aside0.mk hy39
                 have KA39 := Aside0.mk hA39
                 clear hy39 hA39
                 have KL39 := Aside0.mk (show ((wrap64 (4 + (l0_1.length : Int))) : Int).toNat ≤ t217.length from by omega)
                 have KM39 := Aside0.mk (show 4 ≤ ((wrap64 (4 + (l0_1.length : Int))) : Int).toNat from by omega)
                 replace q39 := eq_true q39
                 refine start_ (n := 44) (S := fun w' => w'.cell? ⟨gb215, 0, none⟩ = some (.int .u16 a0_0) ∧ w'.cell? ⟨gb215, 1, none⟩ = some (.slice A0_1 l0_1.length c0_1)) (ds := []) #[false, false, false, false, false, false, false, false, false, false, false, false, false, false, false, false, false, false, false, false, false, false, false, false, false, false, false, false, false, false, false, false, false, false, false, false, false, false, false, false, false, false, false, false] (by kernel_rfl) rfl rfl ⟨(blk_cell BK215.out 0).trans rfl, (blk_cell BK215.out 1).trans rfl⟩ (fun hHeld => ?_); refine with_tabW portreevelaw08_FrameShort.tab14 portreevelaw08_FrameShort.bits14 (fun HT_ HW_ => ?_)
                 generalize wc.drew = w36 at HO_4 HO_6 BK215 HB HR228 hHeld ⊢
                 refine pure_ (i := 0) (N := some 51) (v := ?_) (a' := ?_) #[true, false, false, false, false, false, false, false, false, false, false, false, false, false, false, false, false, false, false, false, false, false, false, false, false, false, false, false, false, false, false, false, false, false, false, false, false, false, false, false, false, false, false, false] rfl rfl (any_of HT_.out (by kernel_rfl)) (fun _ _ _ h => h) (Or.inl ⟨by rfl, ?_⟩) ?_ ?_
                 rotate_left
                 ·intro w'
                  go_simp
                  with_reducible rfl
                 rotate_left
                 ·simp only [Act.put, sT, s0, s1, i64_w, i32_w]
                  rfl
                 refine pure_ (i := 1) (N := some 52) (v := ?_) (a' := ?_) #[true, true, false, false, false, false, false, false, false, false, false, false, false, false, false, false, false, false, false, false, false, false, false, false, false, false, false, false, false, false, false, false, false, false, false, false, false, false, false, false, false, false, false, false] rfl rfl (any_of HT_.out (by kernel_rfl)) (fun _ _ _ h => h) (Or.inl ⟨by rfl, ?_⟩) ?_ ?_
                 rotate_left
                 ·intro w'
                  go_simp
                  with_reducible rfl
                 rotate_left
                 ·simp only [Act.put, sT, s0, s1, i64_w, i32_w]
                  rfl
                 refine pure_ (i := 2) (N := some 53) (v := ?_) (a' := ?_) #[true, true, true, false, false, false, false, false, false, false, false, false, false, false, false, false, false, false, false, false, false, false, false, false, false, false, false, false, false, false, false, false, false, false, false, false, false, false, false, false, false, false, false, false] rfl rfl (any_of HT_.out (by kernel_rfl)) (fun _ _ _ h => h) (Or.inl ⟨by rfl, ?_⟩) ?_ ?_
                 rotate_left
                 ·intro w'
                  go_simp
                  with_reducible rfl
                 rotate_left
                 ·simp only [Act.put, sT, s0, s1, i64_w, i32_w]
                  rfl
                 refine pure_ (i := 3) (N := some 54) (v := ?_) (a' := ?_) #[true, true, true, true, false, false, false, false, false, false, false, false, false, false, false, false, false, false, false, false, false, false, false, false, false, false, false, false, false, false, false, false, false, false, false, false, false, false, false, false, false, false, false, false] rfl rfl (any_of HT_.out (by kernel_rfl)) (fun _ _ _ h => h) (Or.inl ⟨by rfl, ?_⟩) ?_ ?_
                 rotate_left
                 ·intro w'
                  go_simp
                  with_reducible rfl
                 rotate_left
                 ·simp only [Act.put, sT, s0, s1, i64_w, i32_w]
                  rfl
                 refine pure_ (i := 4) (N := some 55) (v := ?_) (a' := ?_) #[true, true, true, true, true, false, false, false, false, false, false, false, false, false, false, false, false, false, false, false, false, false, false, false, false, false, false, false, false, false, false, false, false, false, false, false, false, false, false, false, false, false, false, false] rfl rfl (any_of HT_.out (by kernel_rfl)) (fun _ _ _ h => h) (Or.inl ⟨by rfl, ?_⟩) ?_ ?_
                 rotate_left
                 ·intro w'
                  go_simp
                  with_reducible rfl
                 rotate_left
                 ·simp only [Act.put, sT, s0, s1, i64_w, i32_w]
                  rfl
                 refine pure_ (i := 5) (N := some 56) (v := ?_) (a' := ?_) #[true, true, true, true, true, true, false, false, false, false, false, false, false, false, false, false, false, false, false, false, false, false, false, false, false, false, false, false, false, false, false, false, false, false, false, false, false, false, false, false, false, false, false, false] rfl rfl (any_of HT_.out (by kernel_rfl)) (fun _ _ _ h => h) (Or.inl ⟨by rfl, ?_⟩) ?_ ?_
                 rotate_left
                 ·intro w'
                  go_simp
                  with_reducible rfl
                 rotate_left
                 ·simp only [Act.put, sT, s0, s1, i64_w, i32_w]
                  rfl
                 refine pure_ (i := 6) (N := some 57) (v := ?_) (a' := ?_) #[true, true, true, true, true, true, true, false, false, false, false, false, false, false, false, false, false, false, false, false, false, false, false, false, false, false, false, false, false, false, false, false, false, false, false, false, false, false, false, false, false, false, false, false] rfl rfl (any_of HT_.out (by kernel_rfl)) (fun _ _ _ h => h) (Or.inl ⟨by rfl, ?_⟩) ?_ ?_
                 rotate_left
                 ·intro w'
                  go_simp
                  with_reducible rfl
                 rotate_left
                 ·simp only [Act.put, sT, s0, s1, i64_w, i32_w]
                  rfl
                 refine pure_ (i := 7) (N := some 58) (v := ?_) (a' := ?_) #[true, true, true, true, true, true, true, true, false, false, false, false, false, false, false, false, false, false, false, false, false, false, false, false, false, false, false, false, false, false, false, false, false, false, false, false, false, false, false, false, false, false, false, false] rfl rfl (any_of HT_.out (by kernel_rfl)) (fun _ _ _ h => h) (Or.inl ⟨by rfl, ?_⟩) ?_ ?_
                 rotate_left
                 ·intro w'
                  go_simp
                  with_reducible rfl
                 rotate_left
                 ·simp only [Act.put, sT, s0, s1, i64_w, i32_w]
                  rfl
                 refine pure_ (i := 8) (N := some 59) (v := ?_) (a' := ?_) #[true, true, true, true, true, true, true, true, true, false, false, false, false, false, false, false, false, false, false, false, false, false, false, false, false, false, false, false, false, false, false, false, false, false, false, false, false, false, false, false, false, false, false, false] rfl rfl (any_of HT_.out (by kernel_rfl)) (fun _ _ _ h => h) (Or.inl ⟨by rfl, ?_⟩) ?_ ?_
                 rotate_left
                 ·intro w'
                  go_simp
                  with_reducible rfl
                 rotate_left
                 ·simp only [Act.put, sT, s0, s1, i64_w, i32_w]
                  rfl
                 refine pure_ (i := 9) (N := some 60) (v := ?_) (a' := ?_) #[true, true, true, true, true, true, true, true, true, true, false, false, false, false, false, false, false, false, false, false, false, false, false, false, false, false, false, false, false, false, false, false, false, false, false, false, false, false, false, false, false, false, false, false] rfl rfl (any_of HT_.out (by kernel_rfl)) (fun _ _ _ h => h) (Or.inl ⟨by rfl, ?_⟩) ?_ ?_
                 rotate_left
                 ·intro w'
                  go_simp
                  with_reducible rfl
                 rotate_left
                 ·simp only [Act.put, sT, s0, s1, i64_w, i32_w]
                  rfl
                 refine pure_ (i := 10) (N := some 61) (v := ?_) (a' := ?_) #[true, true, true, true, true, true, true, true, true, true, true, false, false, false, false, false, false, false, false, false, false, false, false, false, false, false, false, false, false, false, false, false, false, false, false, false, false, false, false, false, false, false, false, false] rfl rfl (any_of HT_.out (by kernel_rfl)) (fun _ _ _ h => h) (Or.inl ⟨by rfl, ?_⟩) ?_ ?_
                 rotate_left
                 ·intro w'
                  go_simp
                  with_reducible rfl
                 rotate_left
                 ·simp only [Act.put, sT, s0, s1, i64_w, i32_w]
                  rfl
                 refine pure_ (i := 11) (N := some 62) (v := ?_) (a' := ?_) #[true, true, true, true, true, true, true, true, true, true, true, true, false, false, false, false, false, false, false, false, false, false, false, false, false, false, false, false, false, false, false, false, false, false, false, false, false, false, false, false, false, false, false, false] rfl rfl (any_of HT_.out (by kernel_rfl)) (fun _ _ _ h => h) (Or.inl ⟨by rfl, ?_⟩) ?_ ?_
                 rotate_left
                 ·intro w'
                  go_simp
                  with_reducible rfl
                 rotate_left
                 ·simp only [Act.put, sT, s0, s1, i64_w, i32_w]
                  rfl
                 refine pure_ (i := 12) (N := some 63) (v := ?_) (a' := ?_) #[true, true, true, true, true, true, true, true, true, true, true, true, true, false, false, false, false, false, false, false, false, false, false, false, false, false, false, false, false, false, false, false, false, false, false, false, false, false, false, false, false, false, false, false] rfl rfl (any_of HT_.out (by kernel_rfl)) (fun _ _ _ h => h) (Or.inl ⟨by rfl, ?_⟩) ?_ ?_
                 rotate_left
                 ·intro w'
                  go_simp
                  with_reducible rfl
                 rotate_left
                 ·simp only [Act.put, sT, s0, s1, i64_w, i32_w]
                  rfl
                 refine pure_ (i := 13) (N := some 64) (v := ?_) (a' := ?_) #[true, true, true, true, true, true, true, true, true, true, true, true, true, true, false, false, false, false, false, false, false, false, false, false, false, false, false, false, false, false, false, false, false, false, false, false, false, false, false, false, false, false, false, false] rfl rfl (any_of HT_.out (by kernel_rfl)) (fun _ _ _ h => h) (Or.inl ⟨by rfl, ?_⟩) ?_ ?_
                 rotate_left
                 ·intro w'
                  go_simp
                  with_reducible rfl
                 rotate_left
                 ·simp only [Act.put, sT, s0, s1, i64_w, i32_w]
                  rfl
                 refine pure_ (i := 14) (N := some 65) (v := ?_) (a' := ?_) #[true, true, true, true, true, true, true, true, true, true, true, true, true, true, true, false, false, false, false, false, false, false, false, false, false, false, false, false, false, false, false, false, false, false, false, false, false, false, false, false, false, false, false, false] rfl rfl (any_of HT_.out (by kernel_rfl)) (fun _ _ _ h => h) (Or.inl ⟨by rfl, ?_⟩) ?_ ?_
                 rotate_left
                 ·intro w'
                  go_simp
                  with_reducible rfl
                 rotate_left
                 ·simp only [Act.put, sT, s0, s1, i64_w, i32_w]
                  rfl
                 refine pure_ (i := 15) (N := some 66) (v := ?_) (a' := ?_) #[true, true, true, true, true, true, true, true, true, true, true, true, true, true, true, true, false, false, false, false, false, false, false, false, false, false, false, false, false, false, false, false, false, false, false, false, false, false, false, false, false, false, false, false] rfl rfl (any_of HT_.out (by kernel_rfl)) (fun _ _ _ h => h) (Or.inl ⟨by rfl, ?_⟩) ?_ ?_
                 rotate_left
                 ·intro w'
                  go_simp
                  with_reducible rfl
                 rotate_left
                 ·simp only [Act.put, sT, s0, s1, i64_w, i32_w]
                  rfl
                 refine pure_ (i := 16) (N := some 67) (v := ?_) (a' := ?_) #[true, true, true, true, true, true, true, true, true, true, true, true, true, true, true, true, true, false, false, false, false, false, false, false, false, false, false, false, false, false, false, false, false, false, false, false, false, false, false, false, false, false, false, false] rfl rfl (any_of HT_.out (by kernel_rfl)) (fun _ _ _ h => h) (Or.inl ⟨by rfl, ?_⟩) ?_ ?_
                 rotate_left
                 ·intro w'
                  go_simp
                  with_reducible rfl
                 rotate_left
                 ·simp only [Act.put, sT, s0, s1, i64_w, i32_w]
                  rfl
                 refine pure_ (i := 17) (N := some 68) (v := ?_) (a' := ?_) #[true, true, true, true, true, true, true, true, true, true, true, true, true, true, true, true, true, true, false, false, false, false, false, false, false, false, false, false, false, false, false, false, false, false, false, false, false, false, false, false, false, false, false, false] rfl rfl (any_of HT_.out (by kernel_rfl)) (fun _ _ _ h => h) (Or.inl ⟨by rfl, ?_⟩) ?_ ?_
                 rotate_left
                 ·intro w'
                  go_simp
                  with_reducible rfl
                 rotate_left
                 ·simp only [Act.put, sT, s0, s1, i64_w, i32_w]
                  rfl
                 refine pure_ (i := 18) (N := some 69) (v := ?_) (a' := ?_) #[true, true, true, true, true, true, true, true, true, true, true, true, true, true, true, true, true, true, true, false, false, false, false, false, false, false, false, false, false, false, false, false, false, false, false, false, false, false, false, false, false, false, false, false] rfl rfl (any_of HT_.out (by kernel_rfl)) (fun _ _ _ h => h) (Or.inl ⟨by rfl, ?_⟩) ?_ ?_
                 rotate_left
                 ·intro w'
                  go_simp
                  with_reducible rfl
                 rotate_left
                 ·simp only [Act.put, sT, s0, s1, i64_w, i32_w]
                  rfl
                 refine pure_ (i := 19) (N := some 70) (v := ?_) (a' := ?_) #[true, true, true, true, true, true, true, true, true, true, true, true, true, true, true, true, true, true, true, true, false, false, false, false, false, false, false, false, false, false, false, false, false, false, false, false, false, false, false, false, false, false, false, false] rfl rfl (any_of HT_.out (by kernel_rfl)) (fun _ _ _ h => h) (Or.inl ⟨by rfl, ?_⟩) ?_ ?_
                 rotate_left
                 ·intro w'
                  go_simp
                  with_reducible rfl
                 rotate_left
                 ·simp only [Act.put, sT, s0, s1, i64_w, i32_w]
                  rfl
                 refine pure_ (i := 20) (N := some 71) (v := ?_) (a' := ?_) #[true, true, true, true, true, true, true, true, true, true, true, true, true, true, true, true, true, true, true, true, true, false, false, false, false, false, false, false, false, false, false, false, false, false, false, false, false, false, false, false, false, false, false, false] rfl rfl (any_of HT_.out (by kernel_rfl)) (fun _ _ _ h => h) (Or.inl ⟨by rfl, ?_⟩) ?_ ?_
                 rotate_left
                 ·intro w'
                  go_simp
                  with_reducible rfl
                 rotate_left
                 ·simp only [Act.put, sT, s0, s1, i64_w, i32_w]
                  rfl
                 refine pure_ (i := 21) (N := some 72) (v := ?_) (a' := ?_) #[true, true, true, true, true, true, true, true, true, true, true, true, true, true, true, true, true, true, true, true, true, true, false, false, false, false, false, false, false, false, false, false, false, false, false, false, false, false, false, false, false, false, false, false] rfl rfl (any_of HT_.out (by kernel_rfl)) (fun _ _ _ h => h) (Or.inl ⟨by rfl, ?_⟩) ?_ ?_
                 rotate_left
                 ·intro w'
                  go_simp
                  with_reducible rfl
                 rotate_left
                 ·simp only [Act.put, sT, s0, s1, i64_w, i32_w]
                  rfl
                 refine pure_ (i := 22) (N := some 73) (v := ?_) (a' := ?_) #[true, true, true, true, true, true, true, true, true, true, true, true, true, true, true, true, true, true, true, true, true, true, true, false, false, false, false, false, false, false, false, false, false, false, false, false, false, false, false, false, false, false, false, false] rfl rfl (any_of HT_.out (by kernel_rfl)) (fun _ _ _ h => h) (Or.inl ⟨by rfl, ?_⟩) ?_ ?_
                 rotate_left
                 ·intro w'
                  go_simp
                  with_reducible rfl
                 rotate_left
                 ·simp only [Act.put, sT, s0, s1, i64_w, i32_w]
                  rfl
                 refine pure_ (i := 23) (N := some 74) (v := ?_) (a' := ?_) #[true, true, true, true, true, true, true, true, true, true, true, true, true, true, true, true, true, true, true, true, true, true, true, true, false, false, false, false, false, false, false, false, false, false, false, false, false, false, false, false, false, false, false, false] rfl rfl (any_of HT_.out (by kernel_rfl)) (fun _ _ _ h => h) (Or.inl ⟨by rfl, ?_⟩) ?_ ?_
                 rotate_left
                 ·intro w'
                  go_simp
                  with_reducible rfl
                 rotate_left
                 ·simp only [Act.put, sT, s0, s1, i64_w, i32_w]
                  rfl
                 refine pure_ (i := 24) (N := some 75) (v := ?_) (a' := ?_) #[true, true, true, true, true, true, true, true, true, true, true, true, true, true, true, true, true, true, true, true, true, true, true, true, true, false, false, false, false, false, false, false, false, false, false, false, false, false, false, false, false, false, false, false] rfl rfl (any_of HT_.out (by kernel_rfl)) (fun _ _ _ h => h) (Or.inl ⟨by rfl, ?_⟩) ?_ ?_
                 rotate_left
                 ·intro w'
                  go_simp
                  with_reducible rfl
                 rotate_left
                 ·simp only [Act.put, sT, s0, s1, i64_w, i32_w]
                  rfl
                 refine pure_ (i := 25) (N := some 76) (v := ?_) (a' := ?_) #[true, true, true, true, true, true, true, true, true, true, true, true, true, true, true, true, true, true, true, true, true, true, true, true, true, true, false, false, false, false, false, false, false, false, false, false, false, false, false, false, false, false, false, false] rfl rfl (any_of HT_.out (by kernel_rfl)) (fun _ _ _ h => h) (Or.inl ⟨by rfl, ?_⟩) ?_ ?_
                 rotate_left
                 ·intro w'
                  go_simp
                  with_reducible rfl
                 rotate_left
                 ·simp only [Act.put, sT, s0, s1, i64_w, i32_w]
                  rfl
                 refine pure_ (i := 26) (N := some 77) (v := ?_) (a' := ?_) #[true, true, true, true, true, true, true, true, true, true, true, true, true, true, true, true, true, true, true, true, true, true, true, true, true, true, true, false, false, false, false, false, false, false, false, false, false, false, false, false, false, false, false, false] rfl rfl (any_of HT_.out (by kernel_rfl)) (fun _ _ _ h => h) (Or.inl ⟨by rfl, ?_⟩) ?_ ?_
                 rotate_left
                 ·intro w'
                  go_simp
                  with_reducible rfl
                 rotate_left
                 ·simp only [Act.put, sT, s0, s1, i64_w, i32_w]
                  rfl
                 refine take_ (i := 27) (N := some 78) (v := ?_) (a' := ?_) #[true, true, true, true, true, true, true, true, true, true, true, true, true, true, true, true, true, true, true, true, true, true, true, true, true, true, true, true, false, false, false, false, false, false, false, false, false, false, false, false, false, false, false, false] rfl rfl (take_ofW HT_.out HW_.out (by kernel_rfl)) (fun _ _ _ h => h) (Or.inl ⟨by rfl, ?_⟩) hHeld ?_ ?_
                 rotate_left
                 ·rintro w' ⟨s0, s1⟩
                  go_simp
                  with_reducible rfl
                 rotate_left
                 ·simp only [Act.put, sT, s0, s1, i64_w, i32_w]
                  rfl
                 refine one_ (i := 28) (N := some 79) #[true, true, true, true, true, true, true, true, true, true, true, true, true, true, true, true, true, true, true, true, true, true, true, true, true, true, true, true, true, false, false, false, false, false, false, false, false, false, false, false, false, false, false, false] rfl rfl (one_of HT_.out (by kernel_rfl)) (by decide) (fun K hK => ?_)
                 refine goes_ Try.func10 (by kernel_rfl) rfl #[.slice A39 y225.length c39, .slice A0_1 l0_1.length c0_1] (by rfl) rfl rfl (by (try simp only [List.map_toArray, List.map_cons, List.map_nil]); first | done | rfl | (simp only [List.length_drop, List.length_take]; rfl)) ?_
                 with_reducible refine (portreeveref01_Row.calls kj18 _ _ y225 _ _ l0_1 true _ ?side1 ?side2 ?side3 ?side4 A28.out).mono ?_
                 (case side1 => repeat (first | exact (by repeat (first | (with_reducible exact HR228.out) | (with_reducible refine Kd.C_alloc ?_ _) | (with_reducible refine Kd.C_drewN ?_ _) | (with_reducible refine Kd.C_drew ?_) | exact HR228.out)) | (with_reducible refine Kd.C_alloc ?_ _) | (with_reducible refine Kd.C_drewN ?_ _) | (with_reducible refine Kd.C_drew ?_)))
                 (case side2 => exact HC228.out)
                 (case side3 => repeat (first | exact (Kd.C_below HR0_1.out HB.out) | (with_reducible refine Kd.C_alloc ?_ _) | (with_reducible refine Kd.C_drewN ?_ _) | (with_reducible refine Kd.C_drew ?_)))
                 (case side4 => exact HC0_1.out)
                 rintro e w' ⟨rfl, ⟨nd, rfl⟩⟩
                 refine ⟨_, rfl, ?_⟩
                 have q40 : ((wrap64 ((ji30) + (l0_1.length : Int))) : Int) ≤ ((t221.length : Int) : Int) := of_decide_eq_true (by first | (with_reducible assumption) | assumption)
                 obtain ⟨i040, hi040, _, hsz40, _⟩ := info_parts info5
                 have hroom40 : t221.length ≤ co38 := (Kd.R_reads' HO_6.out).2.1
                 have hC40 : Kd.C (Kd.int .u8) _ Ao38 t221.length t221 := (Kd.R_reads' HO_6.out).2.2
                 have ql40 : ((ji30) : Int) ≤ ((wrap64 ((ji30) + (l0_1.length : Int))) : Int) := of_decide_eq_true (by first | (with_reducible assumption) | assumption)
                 have q040 : (0 : Int) ≤ ((ji30) : Int) := of_decide_eq_true (by first | (with_reducible assumption) | assumption)
                 have hcut40 := cut_mid (P := Try.prog) 23 5 .i64 .i64 Try.underlying23 hi040 1 hsz40 Ao38 t221.length co38 (ji30) (wrap64 ((ji30) + (l0_1.length : Int))) q040 ql40 q40 hroom40
                 have hr40 := Kd.C_mid (lo := ((ji30) : Int).toNat) (hi := ((wrap64 ((ji30) + (l0_1.length : Int))) : Int).toNat) (c := co38) hC40 (by omega) (by omega) hroom40
                 obtain ⟨A40, hA40⟩ : ∃ A1, A1 = (if co38 = ((ji30) : Int).toNat then Ao38 else (Ao38 : Option Addr).map (·.add (((ji30) : Int).toNat * 1))) := ⟨_, rfl⟩
                 obtain ⟨c40, hc40⟩ : ∃ c1, c1 = co38 - ((ji30) : Int).toNat := ⟨_, rfl⟩
                 have hy40 : y230.length = ((wrap64 ((ji30) + (l0_1.length : Int))) : Int).toNat - ((ji30) : Int).toNat := (by rw [Ny230.out, List.length_drop, List.length_take] <;> omega)
                 rw [show ((t221).take ((wrap64 ((ji30) + (l0_1.length : Int))) : Int).toNat).drop ((ji30) : Int).toNat = y230 from Ny230.out.symm] at hr40
                 replace hr40 : Kd.C (Kd.int .u8) _ A40 y230.length y230 := (by rw [hA40]; exact hr40)
                 rw [← hy40, ← hA40, ← hc40] at hcut40
                 have HR233 := Aside0.mk hr40
                 have HC233 := Aside0.mk (show y230.length ≤ c40 from by rw [hy40, hc40]; exact Nat.sub_le_sub_right (Nat.le_trans (by omega) hroom40) _)
                 clear hr40 hC40 hroom40 hi040 hsz40 hc40
                 have KY40 := Aside0.mk hy40
                 have KA40 := Aside0.mk hA40
                 clear hy40 hA40
                 have KL40 := Aside0.mk (show ((wrap64 ((ji30) + (l0_1.length : Int))) : Int).toNat ≤ t221.length from by omega)
                 have KM40 := Aside0.mk (show ((ji30) : Int).toNat ≤ ((wrap64 ((ji30) + (l0_1.length : Int))) : Int).toNat from by omega)
                 replace q40 := eq_true q40
                 refine hK.out _ _ ⟨(blk_cell BK215.out 0).trans rfl, (blk_cell BK215.out 1).trans rfl⟩ (fun hHeld => ?_)
                 clear hK K
                 refine norm_ (a' := ?_) ?_ ?_
                 rotate_left
                 ·show Act.put _ (some 79) _ = _
                  simp only [Act.put, sT, s0, s1, i64_w, i32_w]
                  rfl
                 refine pure_ (i := 29) (N := some 80) (v := ?_) (a' := ?_) #[true, true, true, true, true, true, true, true, true, true, true, true, true, true, true, true, true, true, true, true, true, true, true, true, true, true, true, true, true, true, false, false, false, false, false, false, false, false, false, false, false, false, false, false] rfl rfl (any_of HT_.out (by kernel_rfl)) (fun _ _ _ h => h) (Or.inl ⟨by rfl, ?_⟩) ?_ ?_
                 rotate_left
                 ·intro w'
                  go_simp
                  with_reducible rfl
                 rotate_left
                 ·simp only [Act.put, sT, s0, s1, i64_w, i32_w]
                  rfl
                 refine pure_ (i := 30) (N := some 81) (v := ?_) (a' := ?_) #[true, true, true, true, true, true, true, true, true, true, true, true, true, true, true, true, true, true, true, true, true, true, true, true, true, true, true, true, true, true, true, false, false, false, false, false, false, false, false, false, false, false, false, false] rfl rfl (any_of HT_.out (by kernel_rfl)) (fun _ _ _ h => h) (Or.inl ⟨by rfl, ?_⟩) ?_ ?_
                 rotate_left
                 ·intro w'
                  go_simp
                  with_reducible rfl
                 rotate_left
                 ·simp only [Act.put, sT, s0, s1, i64_w, i32_w]
                  rfl
                 refine pure_ (i := 31) (N := some 82) (v := ?_) (a' := ?_) #[true, true, true, true, true, true, true, true, true, true, true, true, true, true, true, true, true, true, true, true, true, true, true, true, true, true, true, true, true, true, true, true, false, false, false, false, false, false, false, false, false, false, false, false] rfl rfl (any_of HT_.out (by kernel_rfl)) (fun _ _ _ h => h) (Or.inl ⟨by rfl, ?_⟩) ?_ ?_
                 rotate_left
                 ·intro w'
                  go_simp
                  with_reducible rfl
                 rotate_left
                 ·simp only [Act.put, sT, s0, s1, i64_w, i32_w]
                  rfl
                 refine pure_ (i := 32) (N := some 83) (v := ?_) (a' := ?_) #[true, true, true, true, true, true, true, true, true, true, true, true, true, true, true, true, true, true, true, true, true, true, true, true, true, true, true, true, true, true, true, true, true, false, false, false, false, false, false, false, false, false, false, false] rfl rfl (any_of HT_.out (by kernel_rfl)) (fun _ _ _ h => h) (Or.inl ⟨by rfl, ?_⟩) ?_ ?_
                 rotate_left
                 ·intro w'
                  go_simp
                  with_reducible rfl
                 rotate_left
                 ·simp only [Act.put, sT, s0, s1, i64_w, i32_w]
                  rfl
                 refine pure_ (i := 33) (N := some 84) (v := ?_) (a' := ?_) #[true, true, true, true, true, true, true, true, true, true, true, true, true, true, true, true, true, true, true, true, true, true, true, true, true, true, true, true, true, true, true, true, true, true, false, false, false, false, false, false, false, false, false, false] rfl rfl (any_of HT_.out (by kernel_rfl)) (fun _ _ _ h => h) (Or.inl ⟨by rfl, ?_⟩) ?_ ?_
                 rotate_left
                 ·intro w'
                  go_simp
                  with_reducible rfl
                 rotate_left
                 ·simp only [Act.put, sT, s0, s1, i64_w, i32_w]
                  rfl
                 refine pure_ (i := 34) (N := some 85) (v := ?_) (a' := ?_) #[true, true, true, true, true, true, true, true, true, true, true, true, true, true, true, true, true, true, true, true, true, true, true, true, true, true, true, true, true, true, true, true, true, true, true, false, false, false, false, false, false, false, false, false] rfl rfl (any_of HT_.out (by kernel_rfl)) (fun _ _ _ h => h) (Or.inl ⟨by rfl, ?_⟩) ?_ ?_
                 rotate_left
                 ·intro w'
                  go_simp
                  with_reducible rfl
                 rotate_left
                 ·simp only [Act.put, sT, s0, s1, i64_w, i32_w]
                  rfl
                 refine pure_ (i := 35) (N := some 86) (v := ?_) (a' := ?_) #[true, true, true, true, true, true, true, true, true, true, true, true, true, true, true, true, true, true, true, true, true, true, true, true, true, true, true, true, true, true, true, true, true, true, true, true, false, false, false, false, false, false, false, false] rfl rfl (any_of HT_.out (by kernel_rfl)) (fun _ _ _ h => h) (Or.inl ⟨by rfl, ?_⟩) ?_ ?_
                 rotate_left
                 ·intro w'
                  go_simp
                  with_reducible rfl
                 rotate_left
                 ·simp only [Act.put, sT, s0, s1, i64_w, i32_w]
                  rfl
                 refine pure_ (i := 36) (N := some 87) (v := ?_) (a' := ?_) #[true, true, true, true, true, true, true, true, true, true, true, true, true, true, true, true, true, true, true, true, true, true, true, true, true, true, true, true, true, true, true, true, true, true, true, true, true, false, false, false, false, false, false, false] rfl rfl (any_of HT_.out (by kernel_rfl)) (fun _ _ _ h => h) (Or.inl ⟨by rfl, ?_⟩) ?_ ?_
                 rotate_left
                 ·intro w'
                  go_simp
                  with_reducible rfl
                 rotate_left
                 ·simp only [Act.put, sT, s0, s1, i64_w, i32_w]
                  rfl
                 refine pure_ (i := 37) (N := some 88) (v := ?_) (a' := ?_) #[true, true, true, true, true, true, true, true, true, true, true, true, true, true, true, true, true, true, true, true, true, true, true, true, true, true, true, true, true, true, true, true, true, true, true, true, true, true, false, false, false, false, false, false] rfl rfl (any_of HT_.out (by kernel_rfl)) (fun _ _ _ h => h) (Or.inl ⟨by rfl, ?_⟩) ?_ ?_
                 rotate_left
                 ·intro w'
                  go_simp
                  with_reducible rfl
                 rotate_left
                 ·simp only [Act.put, sT, s0, s1, i64_w, i32_w]
                  rfl
                 refine pure_ (i := 38) (N := some 89) (v := ?_) (a' := ?_) #[true, true, true, true, true, true, true, true, true, true, true, true, true, true, true, true, true, true, true, true, true, true, true, true, true, true, true, true, true, true, true, true, true, true, true, true, true, true, true, false, false, false, false, false] rfl rfl (any_of HT_.out (by kernel_rfl)) (fun _ _ _ h => h) (Or.inl ⟨by rfl, ?_⟩) ?_ ?_
                 rotate_left
                 ·intro w'
                  go_simp
                  with_reducible rfl
                 rotate_left
                 ·simp only [Act.put, sT, s0, s1, i64_w, i32_w]
                  rfl
                 refine pure_ (i := 39) (N := some 90) (v := ?_) (a' := ?_) #[true, true, true, true, true, true, true, true, true, true, true, true, true, true, true, true, true, true, true, true, true, true, true, true, true, true, true, true, true, true, true, true, true, true, true, true, true, true, true, true, false, false, false, false] rfl rfl (any_of HT_.out (by kernel_rfl)) (fun _ _ _ h => h) (Or.inl ⟨by rfl, ?_⟩) ?_ ?_
                 rotate_left
                 ·intro w'
                  go_simp
                  with_reducible rfl
                 rotate_left
                 ·simp only [Act.put, sT, s0, s1, i64_w, i32_w]
                  rfl
                 refine take_ (i := 40) (N := some 91) (v := ?_) (a' := ?_) #[true, true, true, true, true, true, true, true, true, true, true, true, true, true, true, true, true, true, true, true, true, true, true, true, true, true, true, true, true, true, true, true, true, true, true, true, true, true, true, true, true, false, false, false] rfl rfl (take_ofW HT_.out HW_.out (by kernel_rfl)) (fun _ _ _ h => h) (Or.inl ⟨by rfl, ?_⟩) hHeld ?_ ?_
                 rotate_left
                 ·rintro w' ⟨s0, s1⟩
                  go_simp
                  with_reducible rfl
                 rotate_left
                 ·simp only [Act.put, sT, s0, s1, i64_w, i32_w]
                  rfl
                 refine one_ (i := 41) (N := some 92) #[true, true, true, true, true, true, true, true, true, true, true, true, true, true, true, true, true, true, true, true, true, true, true, true, true, true, true, true, true, true, true, true, true, true, true, true, true, true, true, true, true, true, false, false] rfl rfl (one_of HT_.out (by kernel_rfl)) (by decide) (fun K hK => ?_)
                 refine goes_ Try.func10 (by kernel_rfl) rfl #[.slice A40 y230.length c40, .slice A0_1 l0_1.length c0_1] (by rfl) rfl rfl (by (try simp only [List.map_toArray, List.map_cons, List.map_nil]); first | done | rfl | (simp only [List.length_drop, List.length_take]; rfl)) ?_
                 with_reducible refine (portreeveref01_Row.calls kj18 _ _ y230 _ _ l0_1 t234 _ ?side1 ?side2 ?side3 ?side4 A34.out).mono ?_
                 (case side1 => repeat (first | exact (by repeat (first | (with_reducible exact HR233.out) | (with_reducible refine Kd.C_alloc ?_ _) | (with_reducible refine Kd.C_drewN ?_ _) | (with_reducible refine Kd.C_drew ?_) | exact HR233.out)) | (with_reducible refine Kd.C_alloc ?_ _) | (with_reducible refine Kd.C_drewN ?_ _) | (with_reducible refine Kd.C_drew ?_)))
                 (case side2 => exact HC233.out)
                 (case side3 => repeat (first | exact (Kd.C_below HR0_1.out (by repeat (first | (with_reducible first | exact HB.out | apply pA | apply pN | apply pD | refine pS ?_ GE215.out) | exact HB.out))) | (with_reducible refine Kd.C_alloc ?_ _) | (with_reducible refine Kd.C_drewN ?_ _) | (with_reducible refine Kd.C_drew ?_)))
                 (case side4 => exact HC0_1.out)
                 rintro e w' ⟨rfl, ⟨nd, rfl⟩⟩
                 refine ⟨_, rfl, ?_⟩
                 refine hK.out _ _ ⟨(blk_cell BK215.out 0).trans rfl, (blk_cell BK215.out 1).trans rfl⟩ (fun hHeld => ?_)
                 clear hK K
                 refine norm_ (a' := ?_) ?_ ?_
                 rotate_left
                 ·show Act.put _ (some 92) _ = _
                  simp only [Act.put, sT, s0, s1, i64_w, i32_w]
                  rfl
                 refine pure_ (i := 42) (N := some 93) (v := ?_) (a' := ?_) #[true, true, true, true, true, true, true, true, true, true, true, true, true, true, true, true, true, true, true, true, true, true, true, true, true, true, true, true, true, true, true, true, true, true, true, true, true, true, true, true, true, true, true, false] rfl rfl (any_of HT_.out (by kernel_rfl)) (fun _ _ _ h => h) (Or.inl ⟨by rfl, ?_⟩) ?_ ?_
                 rotate_left
                 ·intro w'
                  go_simp
                  with_reducible rfl
                 rotate_left
                 ·simp only [Act.put, sT, s0, s1, i64_w, i32_w]
                  rfl
                 refine pure_ (i := 43) (N := some 2) (v := ?_) (a' := ?_) #[true, true, true, true, true, true, true, true, true, true, true, true, true, true, true, true, true, true, true, true, true, true, true, true, true, true, true, true, true, true, true, true, true, true, true, true, true, true, true, true, true, true, true, true] rfl rfl (any_of HT_.out (by kernel_rfl)) (fun _ _ _ h => h) (Or.inl ⟨by rfl, ?_⟩) ?_ ?_
                 rotate_left
                 ·intro w'
                  go_simp
                  with_reducible rfl
                 rotate_left
                 ·simp only [Act.put, sT, s0, s1, i64_w, i32_w]
                  rfl
                 refine done_ (done_of HT_.out (by kernel_rfl)) ?_
                 try go_wp2
                 go_ret
                 exact ⟨by first | rfl | (simp [errW_none, errW_some] <;> rfl) | (simp only [← hji30]; first | rfl | (simp [errW_none, errW_some] <;> rfl)) | (simp [*, errW_none, errW_some] <;> rfl), by repeat (first | (with_reducible first | exact HB.out | apply pA | apply pN | apply pD | refine pS ?_ GE215.out) | exact HB.out)⟩
                ·rw [if_neg c33] at H
                 exact absurd H (by simp)
               ·rw [if_neg c32] at H
                exact absurd H (by simp)
              ·rw [if_neg c31] at H
               exact absurd H (by simp)
             ·replace c29 := Bool.eq_false_iff.mpr c29
              subst c29
              have H1 : (some false) = some r := by rw [if_neg (show ¬ (false = true) by decide)] at H; exact H
              clear H
              have H := H1
              clear H1
              exact absurd ((Option.some.inj H).trans hlaw_.out) (by decide)
            ·rw [if_neg c27] at H
             exact absurd H (by simp)
           ·rw [if_neg c26] at H
            exact absurd H (by simp)
          ·rw [if_neg c25] at H
           have c25b0 : ((t221.length : Int) == (wrap64 ((t217.length : Int) - x8_18))) = false := beq_eq_false_iff_ne.mpr c25
           have c25b1 : ((t221.length : Int) != (wrap64 ((t217.length : Int) - x8_18))) = true := bne_iff_ne.mpr c25
           exact absurd ((Option.some.inj H).trans hlaw_.out) (by decide)
         ·rw [if_neg c24] at H
          have c24b0 : ((t217.length : Int) == (wrap64 ((l0_1.length : Int) + 6))) = false := beq_eq_false_iff_ne.mpr c24
          have c24b1 : ((t217.length : Int) != (wrap64 ((l0_1.length : Int) + 6))) = true := bne_iff_ne.mpr c24
          exact absurd ((Option.some.inj H).trans hlaw_.out) (by decide)
        ·rw [if_neg c23] at H
         have c23b0 : (t224 == 0) = false := beq_eq_false_iff_ne.mpr c23
         have c23b1 : (t224 != 0) = true := bne_iff_ne.mpr c23
         exact absurd ((Option.some.inj H).trans hlaw_.out) (by decide)
       ·replace c22 := Bool.eq_false_iff.mpr c22
        subst c22
        have H1 : (some false) = some r := by rw [if_neg (show ¬ (false = true) by decide)] at H; exact H
        clear H
        have H := H1
        clear H1
        exact absurd ((Option.some.inj H).trans hlaw_.out) (by decide)
  ·rw [if_neg c9] at H
   have c9b0 : (t220 == 0) = false := beq_eq_false_iff_ne.mpr c9
   have c9b1 : (t220 != 0) = true := bne_iff_ne.mpr c9
   by_cases c41 : t216 = true
   ·subst c41
    have H1 : (if t224 = t220 then (some ((wrap64 ((t217.length : Int) + (t221.length : Int))) == 0)) else (some false)) = some r := by rw [if_pos rfl] at H; exact H
    clear H
    have H := H1
    clear H1
    by_cases c42 : t224 = t220
    ·rw [if_pos c42] at H
     have c42b0 : (t224 == t220) = true := beq_iff_eq.mpr c42
     have c42b1 : (t224 != t220) = false := bne_eq_false_iff_eq.mpr c42
     clear c42
     clear hlaw_
     obtain rfl := Option.some.inj H
     go_enter Try.func3, Try.ntmps3
     go_wp2_with (first | ((with_reducible refine gate_dst (N := 1) rfl ?_); (try (refine gate_guard (by rfl) ?_; dsimp only)); refine box_event ?hg (N := 1) ?hd (cs := #[.int .u16 a0_0, .slice A0_1 l0_1.length c0_1]) (t := 25) ?hr ?_; (case hd => rfl); (case hg => rfl); (case hr => first | (go_simp; done) | (go_simp; rfl)); intro gb215 hg w43 hbox hb; have n0_ := Aside0.mk (below_step (zH HB.out) hb); have n1_ := Aside0.mk (hbox); have n2_ := Aside0.mk ((by rw [hg]; exact (below_size (zH HB.out)) : w.heap.size ≤ gb215)); have n3_ := Aside0.mk ((by rw [hg]; exact (below_size (zH HB.out)) : w.heap.size ≤ gb215)); clear HB; have HB := n0_; have BK215 := n1_; have GW215 := n2_; have GE215 := n3_; clear n0_ n1_ n2_ n3_; clear hb hbox hg) | ((with_reducible refine gate_callee (f := 8) rfl ?_); refine goesL_ (some 10) rfl rfl Try.func8 (by kernel_rfl) rfl #[] rfl (by (try simp only [List.map_toArray, List.map_cons, List.map_nil]); first | done | rfl | (simp only [List.length_drop, List.length_take]; rfl)) ?_; (with_reducible refine (portreevelaw08_shown.calls k  true _ A2.out).mono ?_); rintro e w44 ⟨rfl, hb⟩; refine ⟨_, rfl, ?_⟩; have n0_ := Aside0.mk (blk_below (g := gb215) (o := .cells #[.int .u16 a0_0, .slice A0_1 l0_1.length c0_1] 25 (0, 0)) (zB BK215.out) hb); have n1_ := Aside0.mk (below_step (by repeat (first | (with_reducible first | exact HB.out | apply pA | apply pN | apply pD | refine pS ?_ GE215.out) | exact HB.out)) hb); clear BK215; clear HB; have BK215 := n0_; have HB := n1_; clear n0_ n1_; (try clear hb); (try clear hb2); (try clear hk); (try clear hi); obtain ⟨hcz45_0, hcz45_1, hfz45_0, hfz45_1⟩ := bk2 BK215.out) | ((with_reducible refine gate_callee (f := 9) rfl ?_); refine goesL_ (some 18) rfl rfl Try.func9 (by kernel_rfl) rfl #[.agg #[.int .u16 a0_0, .slice A0_1 l0_1.length c0_1], .bool false] rfl (by (try simp only [List.map_toArray, List.map_cons, List.map_nil]); first | done | rfl | (simp only [List.length_drop, List.length_take]; rfl)) ?_; (with_reducible refine (frame_Bytes.calls k a0_0 _ _ l0_1 false t217 t220 _ ?side1 ?side2 A7.out).mono ?_); (case side1 => repeat (first | exact (Kd.C_below HR0_1.out HB.out) | (with_reducible refine Kd.C_alloc ?_ _) | (with_reducible refine Kd.C_drewN ?_ _) | (with_reducible refine Kd.C_drew ?_))); (case side2 => exact HC0_1.out); rintro e w46 ⟨v218, rfl, ho0, hb⟩; refine ⟨_, rfl, ?_⟩; have n0_ := Aside0.mk (Kd.R_lower ho0 (below_size (by repeat (first | (with_reducible first | exact HB.out | apply pA | apply pN | apply pD | refine pS ?_ GE215.out) | exact HB.out)))); have n1_ := Aside0.mk (blk_below (g := gb215) (o := .cells #[.int .u16 a0_0, .slice A0_1 l0_1.length c0_1] 25 (0, 0)) (zB BK215.out) hb); have n2_ := Aside0.mk (below_step (by repeat (first | (with_reducible first | exact HB.out | apply pA | apply pN | apply pD | refine pS ?_ GE215.out) | exact HB.out)) hb); clear BK215; clear HB; have HO219 := n0_; have BK215 := n1_; have HB := n2_; clear n0_ n1_ n2_; (try clear hb); (try clear hb2); (try clear hk); (try clear hi); (try clear ho0); obtain ⟨hcz47_0, hcz47_1, hfz47_0, hfz47_1⟩ := bk2 BK215.out) | ((with_reducible refine gate_callee (f := 9) rfl ?_); refine goesL_ (some 23) rfl rfl Try.func9 (by kernel_rfl) rfl #[.agg #[.int .u16 a0_0, .slice A0_1 l0_1.length c0_1], .bool true] rfl (by (try simp only [List.map_toArray, List.map_cons, List.map_nil]); first | done | rfl | (simp only [List.length_drop, List.length_take]; rfl)) ?_; (with_reducible refine (frame_Bytes.calls k a0_0 _ _ l0_1 true t221 t224 _ ?side1 ?side2 A8.out).mono ?_); (case side1 => repeat (first | exact (Kd.C_below HR0_1.out HB.out) | (with_reducible refine Kd.C_alloc ?_ _) | (with_reducible refine Kd.C_drewN ?_ _) | (with_reducible refine Kd.C_drew ?_))); (case side2 => exact HC0_1.out); rintro e w48 ⟨v222, rfl, ho0, hb⟩; refine ⟨_, rfl, ?_⟩; have n0_ := Aside0.mk (Kd.R_elder' (zR HO219.out) (Kd.R_base ho0) hb); have n1_ := Aside0.mk (Kd.R_lower (Kd.R_new' ho0 (Kd.R_lt (zR HO219.out))) (below_size (by repeat (first | (with_reducible first | exact HB.out | apply pA | apply pN | apply pD | refine pS ?_ GE215.out) | exact HB.out)))); have n2_ := Aside0.mk (blk_below (g := gb215) (o := .cells #[.int .u16 a0_0, .slice A0_1 l0_1.length c0_1] 25 (0, 0)) (zB BK215.out) hb); have n3_ := Aside0.mk (below_step (by repeat (first | (with_reducible first | exact HB.out | apply pA | apply pN | apply pD | refine pS ?_ GE215.out) | exact HB.out)) hb); clear HO219; clear BK215; clear HB; have HO219 := n0_; have HO223 := n1_; have BK215 := n2_; have HB := n3_; clear n0_ n1_ n2_ n3_; (try clear hb); (try clear hb2); (try clear hk); (try clear hi); (try clear ho0); obtain ⟨Ao49, co49, eo49⟩ := Kd.R_slice HO219.out; subst eo49; obtain ⟨Ao50, co50, eo50⟩ := Kd.R_slice HO223.out; subst eo50))
     go_ret
     exact ⟨by first | rfl | (simp [errW_none, errW_some] <;> rfl) | (simp [*, errW_none, errW_some] <;> rfl), by repeat (first | (with_reducible first | exact HB.out | apply pA | apply pN | apply pD | refine pS ?_ GE215.out) | exact HB.out)⟩
    ·rw [if_neg c42] at H
     have c42b0 : (t224 == t220) = false := beq_eq_false_iff_ne.mpr c42
     have c42b1 : (t224 != t220) = true := bne_iff_ne.mpr c42
     exact absurd ((Option.some.inj H).trans hlaw_.out) (by decide)
   ·replace c41 := Bool.eq_false_iff.mpr c41
    subst c41
    have H1 : (some false) = some r := by rw [if_neg (show ¬ (false = true) by decide)] at H; exact H
    clear H
    have H := H1
    clear H1
    exact absurd ((Option.some.inj H).trans hlaw_.out) (by decide)

/-! ### portreeveref08_Same: function 12 -/
def portreeveref08_Same.f (k : Nat) (a0_0 : Int) (l0_1 : List Int) (a1_0 : Int) (l1_1 : List Int) : Option (Bool) := (portreeveref01_Row.f k l0_1 l1_1).bind fun t237 => (if t237 = true then (some (a0_0 == a1_0)) else (some false))
theorem portreeveref08_Same.mono : ∀ a0 a1 a2 a3 k, LeO (portreeveref08_Same.f k a0 a1 a2 a3) (portreeveref08_Same.f (k + 1) a0 a1 a2 a3) := by
  intro a0 a1 a2 a3 k
  unfold portreeveref08_Same.f
  repeat' first
      | (with_reducible exact portreeveref01_Row.mono _ _ _)
      | (with_reducible exact LeO.refl _)
      | (with_reducible exact LeO.none _)
      | (with_reducible refine LeO.ite ?_ ?_)
      | (with_reducible refine LeO.bind ?_ (fun _ => ?_))
      | exact portreeveref01_Row.mono _ _ _
      | exact LeO.none _
      | refine LeO.ite ?_ ?_
      | refine LeO.bind ?_ (fun _ => ?_)
set_option maxHeartbeats 8000000 in
set_option maxRecDepth 100000 in
theorem portreeveref08_Same.calls (k : Nat) (a0_0 : Int) (A0_1 : Option Addr) (c0_1 : Nat) (l0_1 : List Int) (a1_0 : Int) (A1_1 : Option Addr) (c1_1 : Nat) (l1_1 : List Int) (r : Bool) (w : World) (hr0_1 : Kd.C (Kd.int .u8) w A0_1 l0_1.length l0_1) (hc0_1 : l0_1.length ≤ c0_1) (hr1_1 : Kd.C (Kd.int .u8) w A1_1 l1_1.length l1_1) (hc1_1 : l1_1.length ≤ c1_1) (h : portreeveref08_Same.f k a0_0 l0_1 a1_0 l1_1 = some r) :
    Calls Try.prog 12 #[.agg #[.int .u16 a0_0, .slice A0_1 l0_1.length c0_1], .agg #[.int .u16 a1_0, .slice A1_1 l1_1.length c1_1]] w fun e w' => e = .returned (.bool r) ∧ Below w.heap.size w w' := by
  have hu25 := Try.underlying25
  have HR0_1 := Aside0.mk hr0_1
  have HC0_1 := Aside0.mk hc0_1
  clear hr0_1 hc0_1
  have HR1_1 := Aside0.mk hr1_1
  have HC1_1 := Aside0.mk hc1_1
  clear hr1_1 hc1_1
  have HB := Aside0.mk (Below.refl w.heap.size w)
  have H : ((portreeveref01_Row.f k l0_1 l1_1).bind fun t237 => (if t237 = true then (some (a0_0 == a1_0)) else (some false))) = some r := h
  clear h
  replace H := Option.bind_eq_some_iff.mp H
  obtain ⟨t237, A30, H⟩ := H
  replace H : (if t237 = true then (some (a0_0 == a1_0)) else (some false)) = some r := H
  have A3 := Aside0.mk A30
  clear A30
  by_cases c4 : t237 = true
  · subst c4
    have H1 : (some (a0_0 == a1_0)) = some r := by rw [if_pos rfl] at H; exact H
    clear H
    have H := H1
    clear H1
    obtain rfl := Option.some.inj H
    go_enter Try.func12, Try.ntmps12
    go_wp2_with (first | ((with_reducible refine gate_dst (N := 2) rfl ?_); refine box_event ?hg (N := 2) ?hd (cs := #[.int .u16 a0_0, .slice A0_1 l0_1.length c0_1]) (t := 25) ?hr ?_; (case hd => rfl); (case hg => rfl); (case hr => first | (go_simp; done) | (go_simp; rfl)); intro gb235 hg w5 hbox hb; have n0_ := Aside0.mk (below_step (by repeat (first | (with_reducible first | exact HB.out | apply pA | apply pN | apply pD) | exact HB.out)) hb); have n1_ := Aside0.mk (hbox); have n2_ := Aside0.mk ((by rw [hg]; exact (below_size (by repeat (first | (with_reducible first | exact HB.out | apply pA | apply pN | apply pD) | exact HB.out))) : w.heap.size ≤ gb235)); have n3_ := Aside0.mk ((by rw [hg]; exact (below_size (by repeat (first | (with_reducible first | exact HB.out | apply pA | apply pN | apply pD) | exact HB.out))) : w.heap.size ≤ gb235)); clear HB; have HB := n0_; have BK235 := n1_; have GW235 := n2_; have GE235 := n3_; clear n0_ n1_ n2_ n3_; clear hb hbox hg) | ((with_reducible refine gate_dst (N := 3) rfl ?_); refine box_event ?hg (N := 3) ?hd (cs := #[.int .u16 a1_0, .slice A1_1 l1_1.length c1_1]) (t := 25) ?hr ?_; (case hd => rfl); (case hg => rfl); (case hr => first | (go_simp; done) | (go_simp; rfl)); intro gb236 hg w6 hbox hb; have n0_ := Aside0.mk (blk_below (g := gb235) (o := .cells #[.int .u16 a0_0, .slice A0_1 l0_1.length c0_1] 25 (0, 0)) (by (with_reducible repeat (first | refine qN ?_ _ | refine qD ?_ | refine qA ?_ _)); exact BK235.out) hb); have n1_ := Aside0.mk (below_step (by repeat (first | (with_reducible first | exact HB.out | apply pA | apply pN | apply pD | refine pS ?_ GE235.out) | exact HB.out)) hb); have n2_ := Aside0.mk (hbox); have n3_ := Aside0.mk ((by rw [hg]; exact (below_size (by repeat (first | (with_reducible first | exact HB.out | apply pA | apply pN | apply pD | refine pS ?_ GE235.out) | exact HB.out))) : w.heap.size ≤ gb236)); have n4_ := Aside0.mk ((by rw [hg]; exact (below_size (by repeat (first | (with_reducible first | exact HB.out | apply pA | apply pN | apply pD | refine pS ?_ GE235.out) | exact HB.out))) : w.heap.size ≤ gb236)); have n5_ := Aside0.mk ((by rw [hg]; exact Nat.ne_of_lt (blk_lt (g := gb235) (o := .cells #[.int .u16 a0_0, .slice A0_1 l0_1.length c0_1] 25 (0, 0)) (by (with_reducible repeat (first | refine qN ?_ _ | refine qD ?_ | refine qA ?_ _)); exact BK235.out)) : gb235 ≠ gb236)); have n6_ := Aside0.mk ((by rw [hg]; exact Nat.ne_of_gt (blk_lt (g := gb235) (o := .cells #[.int .u16 a0_0, .slice A0_1 l0_1.length c0_1] 25 (0, 0)) (by (with_reducible repeat (first | refine qN ?_ _ | refine qD ?_ | refine qA ?_ _)); exact BK235.out)) : gb236 ≠ gb235)); clear BK235; clear HB; have BK235 := n0_; have HB := n1_; have BK236 := n2_; have GW236 := n3_; have GE236 := n4_; have NB235_236 := n5_; have NB236_235 := n6_; clear n0_ n1_ n2_ n3_ n4_ n5_ n6_; clear hb hbox hg; have hnb7 := NB235_236.out; have hnc7 := NB236_235.out; have hcz8_0 : w6.cell? ⟨gb235, 0, none⟩ = some (.int .u16 a0_0) := (blk_cell BK235.out 0).trans rfl; have hcz8_1 : w6.cell? ⟨gb235, 1, none⟩ = some (.slice A0_1 l0_1.length c0_1) := (blk_cell BK235.out 1).trans rfl; have hfz8_0 := blk_frozen BK235.out 0; have hfz8_1 := blk_frozen BK235.out 1; have hcz9_0 : w6.cell? ⟨gb236, 0, none⟩ = some (.int .u16 a1_0) := (blk_cell BK236.out 0).trans rfl; have hcz9_1 : w6.cell? ⟨gb236, 1, none⟩ = some (.slice A1_1 l1_1.length c1_1) := (blk_cell BK236.out 1).trans rfl; have hfz9_0 := blk_frozen BK236.out 0; have hfz9_1 := blk_frozen BK236.out 1) | ((with_reducible refine gate_callee (f := 10) rfl ?_); refine goesL_ (some 10) rfl rfl Try.func10 (by kernel_rfl) rfl #[.slice A0_1 l0_1.length c0_1, .slice A1_1 l1_1.length c1_1] rfl (by (try simp only [List.map_toArray, List.map_cons, List.map_nil]); first | done | rfl | (simp only [List.length_drop, List.length_take]; rfl)) ?_; (with_reducible refine (portreeveref01_Row.calls k _ _ l0_1 _ _ l1_1 true _ ?side1 ?side2 ?side3 ?side4 A3.out).mono ?_); (case side1 => repeat (first | exact (Kd.C_below HR0_1.out HB.out) | (with_reducible refine Kd.C_alloc ?_ _) | (with_reducible refine Kd.C_drewN ?_ _) | (with_reducible refine Kd.C_drew ?_))); (case side2 => exact HC0_1.out); (case side3 => repeat (first | exact (Kd.C_below HR1_1.out HB.out) | (with_reducible refine Kd.C_alloc ?_ _) | (with_reducible refine Kd.C_drewN ?_ _) | (with_reducible refine Kd.C_drew ?_))); (case side4 => exact HC1_1.out); rintro e w' ⟨rfl, ⟨nd, rfl⟩⟩; refine ⟨_, rfl, ?_⟩))
    go_ret
    exact ⟨by first | rfl | (simp [errW_none, errW_some] <;> rfl) | (simp [*, errW_none, errW_some] <;> rfl), by repeat (first | (with_reducible first | exact HB.out | apply pA | apply pN | apply pD | refine pS ?_ GE235.out | refine pS ?_ GE236.out) | exact HB.out)⟩
  · replace c4 := Bool.eq_false_iff.mpr c4
    subst c4
    have H1 : (some false) = some r := by rw [if_neg (show ¬ (false = true) by decide)] at H; exact H
    clear H
    have H := H1
    clear H1
    obtain rfl := Option.some.inj H
    go_enter Try.func12, Try.ntmps12
    go_wp2_with (first | ((with_reducible refine gate_dst (N := 2) rfl ?_); refine box_event ?hg (N := 2) ?hd (cs := #[.int .u16 a0_0, .slice A0_1 l0_1.length c0_1]) (t := 25) ?hr ?_; (case hd => rfl); (case hg => rfl); (case hr => first | (go_simp; done) | (go_simp; rfl)); intro gb235 hg w10 hbox hb; have n0_ := Aside0.mk (below_step (by repeat (first | (with_reducible first | exact HB.out | apply pA | apply pN | apply pD) | exact HB.out)) hb); have n1_ := Aside0.mk (hbox); have n2_ := Aside0.mk ((by rw [hg]; exact (below_size (by repeat (first | (with_reducible first | exact HB.out | apply pA | apply pN | apply pD) | exact HB.out))) : w.heap.size ≤ gb235)); have n3_ := Aside0.mk ((by rw [hg]; exact (below_size (by repeat (first | (with_reducible first | exact HB.out | apply pA | apply pN | apply pD) | exact HB.out))) : w.heap.size ≤ gb235)); clear HB; have HB := n0_; have BK235 := n1_; have GW235 := n2_; have GE235 := n3_; clear n0_ n1_ n2_ n3_; clear hb hbox hg) | ((with_reducible refine gate_dst (N := 3) rfl ?_); refine box_event ?hg (N := 3) ?hd (cs := #[.int .u16 a1_0, .slice A1_1 l1_1.length c1_1]) (t := 25) ?hr ?_; (case hd => rfl); (case hg => rfl); (case hr => first | (go_simp; done) | (go_simp; rfl)); intro gb236 hg w11 hbox hb; have n0_ := Aside0.mk (blk_below (g := gb235) (o := .cells #[.int .u16 a0_0, .slice A0_1 l0_1.length c0_1] 25 (0, 0)) (by (with_reducible repeat (first | refine qN ?_ _ | refine qD ?_ | refine qA ?_ _)); exact BK235.out) hb); have n1_ := Aside0.mk (below_step (by repeat (first | (with_reducible first | exact HB.out | apply pA | apply pN | apply pD | refine pS ?_ GE235.out) | exact HB.out)) hb); have n2_ := Aside0.mk (hbox); have n3_ := Aside0.mk ((by rw [hg]; exact (below_size (by repeat (first | (with_reducible first | exact HB.out | apply pA | apply pN | apply pD | refine pS ?_ GE235.out) | exact HB.out))) : w.heap.size ≤ gb236)); have n4_ := Aside0.mk ((by rw [hg]; exact (below_size (by repeat (first | (with_reducible first | exact HB.out | apply pA | apply pN | apply pD | refine pS ?_ GE235.out) | exact HB.out))) : w.heap.size ≤ gb236)); have n5_ := Aside0.mk ((by rw [hg]; exact Nat.ne_of_lt (blk_lt (g := gb235) (o := .cells #[.int .u16 a0_0, .slice A0_1 l0_1.length c0_1] 25 (0, 0)) (by (with_reducible repeat (first | refine qN ?_ _ | refine qD ?_ | refine qA ?_ _)); exact BK235.out)) : gb235 ≠ gb236)); have n6_ := Aside0.mk ((by rw [hg]; exact Nat.ne_of_gt (blk_lt (g := gb235) (o := .cells #[.int .u16 a0_0, .slice A0_1 l0_1.length c0_1] 25 (0, 0)) (by (with_reducible repeat (first | refine qN ?_ _ | refine qD ?_ | refine qA ?_ _)); exact BK235.out)) : gb236 ≠ gb235)); clear BK235; clear HB; have BK235 := n0_; have HB := n1_; have BK236 := n2_; have GW236 := n3_; have GE236 := n4_; have NB235_236 := n5_; have NB236_235 := n6_; clear n0_ n1_ n2_ n3_ n4_ n5_ n6_; clear hb hbox hg; have hnb12 := NB235_236.out; have hnc12 := NB236_235.out; have hcz13_0 : w11.cell? ⟨gb235, 0, none⟩ = some (.int .u16 a0_0) := (blk_cell BK235.out 0).trans rfl; have hcz13_1 : w11.cell? ⟨gb235, 1, none⟩ = some (.slice A0_1 l0_1.length c0_1) := (blk_cell BK235.out 1).trans rfl; have hfz13_0 := blk_frozen BK235.out 0; have hfz13_1 := blk_frozen BK235.out 1; have hcz14_0 : w11.cell? ⟨gb236, 0, none⟩ = some (.int .u16 a1_0) := (blk_cell BK236.out 0).trans rfl; have hcz14_1 : w11.cell? ⟨gb236, 1, none⟩ = some (.slice A1_1 l1_1.length c1_1) := (blk_cell BK236.out 1).trans rfl; have hfz14_0 := blk_frozen BK236.out 0; have hfz14_1 := blk_frozen BK236.out 1) | ((with_reducible refine gate_callee (f := 10) rfl ?_); refine goesL_ (some 10) rfl rfl Try.func10 (by kernel_rfl) rfl #[.slice A0_1 l0_1.length c0_1, .slice A1_1 l1_1.length c1_1] rfl (by (try simp only [List.map_toArray, List.map_cons, List.map_nil]); first | done | rfl | (simp only [List.length_drop, List.length_take]; rfl)) ?_; (with_reducible refine (portreeveref01_Row.calls k _ _ l0_1 _ _ l1_1 false _ ?side1 ?side2 ?side3 ?side4 A3.out).mono ?_); (case side1 => repeat (first | exact (Kd.C_below HR0_1.out HB.out) | (with_reducible refine Kd.C_alloc ?_ _) | (with_reducible refine Kd.C_drewN ?_ _) | (with_reducible refine Kd.C_drew ?_))); (case side2 => exact HC0_1.out); (case side3 => repeat (first | exact (Kd.C_below HR1_1.out HB.out) | (with_reducible refine Kd.C_alloc ?_ _) | (with_reducible refine Kd.C_drewN ?_ _) | (with_reducible refine Kd.C_drew ?_))); (case side4 => exact HC1_1.out); rintro e w' ⟨rfl, ⟨nd, rfl⟩⟩; refine ⟨_, rfl, ?_⟩))
    go_ret
    exact ⟨by first | rfl | (simp [errW_none, errW_some] <;> rfl) | (simp [*, errW_none, errW_some] <;> rfl), by repeat (first | (with_reducible first | exact HB.out | apply pA | apply pN | apply pD | refine pS ?_ GE235.out | refine pS ?_ GE236.out) | exact HB.out)⟩

end Go.Proofs.Ytangahcilefelaa.Q

-- written by this session's own program (wip/tools/myprint.py), over the kit's print
import Derived.Test.YtlimlbhhbjaljaaQx0
import Derived.Test.YtlimlbhhbjaljaaQx4
import Derived.Test.YtlimlbhhbjaljaaQx5
import Derived.Test.YtlimlbhhbjaljaaQx6
import Derived.Test.YtlimlbhhbjaljaaQx12
import Derived.Test.YtlimlbhhbjaljaaQx17
import Derived.Test.YtlimlbhhbjaljaaQx23
namespace Go.Proofs.Ytlimlbhhbjaljaa.Q
open Go.RowKit Go.Proofs.YtlimlbhhbjaljaaW.PrintWords Go.Proofs.YtlimlbhhbjaljaaW.PrintLast Go.Proofs.YtlimlbhhbjaljaaW.PrintMore
open Go.Proofs.YtlimlbhhbjaljaaV
attribute [local go_sem] max2_int min2_int max_two min_two max_three min_three max_four min_four   -- for this text's walks alone
set_option linter.unusedVariables false
set_option linter.unusedSimpArgs false

/-! ### portreevelaw17_MeterOps: function 5 -/
mutual
def portreevelaw17_MeterOps.j0 : Nat → Int → Int → Int → Int → Bool → Bool → Int → List (S51) → List (S56) → List (S68) → Option (Bool)
 | 0, _, _, _, _, _, _, _, _, _, _ => none
 | k + 1, x4, x5, x6, x7, x8, x39, x429000, x429001, x429002, x429003 => if x39 = true then (some x8) else (if 0 ≤ x4 then (if x4 < (x429001.length : Int) then ((meter_Count.f ((rd_T51 x429001 x4).f4) ((rd_T51 x429001 x4).f5) 0 x5 x6).bind fun bt433 => ((meter_Note.f bt433.1 bt433.2.1 bt433.2.2 ((rd_T51 x429001 x4).f0)).bind fun bt437 => ((portreeveref04_Apply.f k x429000 x429001 x429002 x429003 bt437.1 bt437.2.1 bt437.2.2.1 bt437.2.2.2.1 bt437.2.2.2.2.1 bt437.2.2.2.2.2.1 bt437.2.2.2.2.2.2.1 bt437.2.2.2.2.2.2.2.1 bt437.2.2.2.2.2.2.2.2).bind fun bt446 => ((meter_Stop.f bt433.1 bt433.2.1 bt433.2.2 ((rd_T51 x429001 x4).f0) (wrap64 (x7))).bind fun bt458 => ((portreeveref04_Apply.f k x429000 x429001 x429002 x429003 bt458.1 bt458.2.1 bt458.2.2.1 bt458.2.2.2.1 bt458.2.2.2.2.1 bt458.2.2.2.2.2.1 bt458.2.2.2.2.2.2.1 bt458.2.2.2.2.2.2.2.1 bt458.2.2.2.2.2.2.2.2).bind fun bt467 => (if bt467.2.2.2.2 = 0 then ((portreeveref04_Of.f k bt467.1 bt467.2.1 bt467.2.2.1 bt467.2.2.2.1 ((rd_T51 x429001 x4).f0)).bind fun t479 => (if t479 ≥ 0 then (portreevelaw17_MeterOps.j1 k x4 x8 bt446.2.2.2.2 true x429000 x429001 x429002 x429003 bt433.1 bt433.2.1 bt433.2.2 bt446.1 bt446.2.1 bt446.2.2.1 bt446.2.2.2.1) else (if 0 ≤ (wrap64 ((bt467.2.2.1.length : Int) - 1)) then (if (wrap64 ((bt467.2.2.1.length : Int) - 1)) < (bt467.2.2.1.length : Int) then (if ((rd_T56 bt467.2.2.1 (wrap64 ((bt467.2.2.1.length : Int) - 1))).f2) = bt433.1 then (portreevelaw17_MeterOps.j1 k x4 x8 bt446.2.2.2.2 (((rd_T56 bt467.2.2.1 (wrap64 ((bt467.2.2.1.length : Int) - 1))).f4) != (wrap64 (x7))) x429000 x429001 x429002 x429003 bt433.1 bt433.2.1 bt433.2.2 bt446.1 bt446.2.1 bt446.2.2.1 bt446.2.2.2.1) else (portreevelaw17_MeterOps.j1 k x4 x8 bt446.2.2.2.2 true x429000 x429001 x429002 x429003 bt433.1 bt433.2.1 bt433.2.2 bt446.1 bt446.2.1 bt446.2.2.1 bt446.2.2.2.1)) else (none)) else (none)))) else (portreevelaw17_MeterOps.j1 k x4 x8 bt446.2.2.2.2 true x429000 x429001 x429002 x429003 bt433.1 bt433.2.1 bt433.2.2 bt446.1 bt446.2.1 bt446.2.2.1 bt446.2.2.2.1))))))) else (none)) else (none))
def portreevelaw17_MeterOps.j1 : Nat → Int → Bool → Int → Bool → Int → List (S51) → List (S56) → List (S68) → Int → Int → Int → Int → List (S51) → List (S56) → List (S68) → Option (Bool)
 | 0, _, _, _, _, _, _, _, _, _, _, _, _, _, _, _ => none
 | k + 1, x4, x8, x12, x110, x429000, x429001, x429002, x429003, x437000, x437001, x437002, x458000, x458001, x458002, x458003 => if x110 = true then (none) else (if x12 = 0 then (if x8 = true then (if 0 ≤ x4 then (if x4 < (x458001.length : Int) then (if ((rd_T51 x458001 x4).f4) = x437000 then (some (((rd_T51 x458001 x4).f5) == x437001)) else (some false)) else (none)) else (none)) else (some false)) else (if x8 = true then (some ((wrap64 ((x429002.length : Int) + (x429001.length : Int))) == 60)) else (some false)))
end
theorem portreevelaw17_MeterOps.j1_true (x0 : Nat) (x1 : Int) (x2 : Bool) (x3 : Int) (x5 : Int) (x6 : List S51) (x7 : List S56) (x8 : List S68) (x9 : Int) (x10 : Int) (x11 : Int) (x12 : Int) (x13 : List S51) (x14 : List S56) (x15 : List S68) : portreevelaw17_MeterOps.j1 x0 x1 x2 x3 true x5 x6 x7 x8 x9 x10 x11 x12 x13 x14 x15 = none := by cases x0 <;> simp [portreevelaw17_MeterOps.j1]
def portreevelaw17_MeterOps.f (k : Nat) (a0_0 : Int) (l0_1 : List (S51)) (l0_2 : List (S56)) (l0_3 : List (S68)) (a0_4 : Int) (a0_5 : Int) (a0_6 : Int) (a0_7 : Int) : Option (Bool) := (portreevelaw17_shown.f k).bind fun t429 => ((portreeveref04_Right.f k a0_0 l0_1 l0_2 l0_3).bind fun t430 => (if t430 = true then (if a0_4 < 0 then (portreevelaw17_MeterOps.j0 k a0_4 a0_5 a0_6 a0_7 t429 true a0_0 l0_1 l0_2 l0_3) else (portreevelaw17_MeterOps.j0 k a0_4 a0_5 a0_6 a0_7 t429 (decide (a0_4 ≥ (l0_1.length : Int))) a0_0 l0_1 l0_2 l0_3)) else (portreevelaw17_MeterOps.j0 k a0_4 a0_5 a0_6 a0_7 t429 true a0_0 l0_1 l0_2 l0_3)))
theorem portreevelaw17_MeterOps.mono_l : ∀ k, (∀ y0 y1 y2 y3 y4 y5 y6 y7 y8 y9, LeO (portreevelaw17_MeterOps.j0 k y0 y1 y2 y3 y4 y5 y6 y7 y8 y9) (portreevelaw17_MeterOps.j0 (k + 1) y0 y1 y2 y3 y4 y5 y6 y7 y8 y9)) ∧ (∀ y0 y1 y2 y3 y4 y5 y6 y7 y8 y9 y10 y11 y12 y13 y14, LeO (portreevelaw17_MeterOps.j1 k y0 y1 y2 y3 y4 y5 y6 y7 y8 y9 y10 y11 y12 y13 y14) (portreevelaw17_MeterOps.j1 (k + 1) y0 y1 y2 y3 y4 y5 y6 y7 y8 y9 y10 y11 y12 y13 y14))
 | 0 => ⟨fun _ _ _ _ _ _ _ _ _ _ r h => by simp [portreevelaw17_MeterOps.j0] at h, fun _ _ _ _ _ _ _ _ _ _ _ _ _ _ _ r h => by simp [portreevelaw17_MeterOps.j1] at h⟩
 | k + 1 => by
  obtain ⟨ih0, ih1⟩ := portreevelaw17_MeterOps.mono_l k
  refine ⟨?_, ?_⟩
  ·intro y0 y1 y2 y3 y4 y5 y6 y7 y8 y9
   unfold portreevelaw17_MeterOps.j0
   repeat' first
   | (with_reducible exact ih0 _ _ _ _ _ _ _ _ _ _)
   | (with_reducible exact ih1 _ _ _ _ _ _ _ _ _ _ _ _ _ _ _)
   | (with_reducible exact portreevelaw17_shown.mono _)
   | (with_reducible exact portreeveref04_Apply.mono _ _ _ _ _ _ _ _ _ _ _ _ _ _)
   | (with_reducible exact portreeveref04_Of.mono _ _ _ _ _ _)
   | (with_reducible exact portreeveref04_Right.mono _ _ _ _ _)
   | (with_reducible exact LeO.refl _)
   | (with_reducible exact LeO.none _)
   | (with_reducible refine LeO.ite ?_ ?_)
   | (with_reducible refine LeO.bind ?_ (fun _ => ?_))
   | exact ih0 _ _ _ _ _ _ _ _ _ _
   | exact ih1 _ _ _ _ _ _ _ _ _ _ _ _ _ _ _
   | exact portreevelaw17_shown.mono _
   | exact portreeveref04_Apply.mono _ _ _ _ _ _ _ _ _ _ _ _ _ _
   | exact portreeveref04_Of.mono _ _ _ _ _ _
   | exact portreeveref04_Right.mono _ _ _ _ _
   | exact LeO.none _
   | refine LeO.ite ?_ ?_
   | refine LeO.bind ?_ (fun _ => ?_)
  ·intro y0 y1 y2 y3 y4 y5 y6 y7 y8 y9 y10 y11 y12 y13 y14
   unfold portreevelaw17_MeterOps.j1
   repeat' first
   | (with_reducible exact ih0 _ _ _ _ _ _ _ _ _ _)
   | (with_reducible exact ih1 _ _ _ _ _ _ _ _ _ _ _ _ _ _ _)
   | (with_reducible exact portreevelaw17_shown.mono _)
   | (with_reducible exact portreeveref04_Apply.mono _ _ _ _ _ _ _ _ _ _ _ _ _ _)
   | (with_reducible exact portreeveref04_Of.mono _ _ _ _ _ _)
   | (with_reducible exact portreeveref04_Right.mono _ _ _ _ _)
   | (with_reducible exact LeO.refl _)
   | (with_reducible exact LeO.none _)
   | (with_reducible refine LeO.ite ?_ ?_)
   | (with_reducible refine LeO.bind ?_ (fun _ => ?_))
   | exact ih0 _ _ _ _ _ _ _ _ _ _
   | exact ih1 _ _ _ _ _ _ _ _ _ _ _ _ _ _ _
   | exact portreevelaw17_shown.mono _
   | exact portreeveref04_Apply.mono _ _ _ _ _ _ _ _ _ _ _ _ _ _
   | exact portreeveref04_Of.mono _ _ _ _ _ _
   | exact portreeveref04_Right.mono _ _ _ _ _
   | exact LeO.none _
   | refine LeO.ite ?_ ?_
   | refine LeO.bind ?_ (fun _ => ?_)
theorem portreevelaw17_MeterOps.mono : ∀ a0 a1 a2 a3 a4 a5 a6 a7 k, LeO (portreevelaw17_MeterOps.f k a0 a1 a2 a3 a4 a5 a6 a7) (portreevelaw17_MeterOps.f (k + 1) a0 a1 a2 a3 a4 a5 a6 a7) := by
 intro a0 a1 a2 a3 a4 a5 a6 a7 k
 obtain ⟨ih0, ih1⟩ := portreevelaw17_MeterOps.mono_l k
 unfold portreevelaw17_MeterOps.f
 repeat' first
   | (with_reducible exact ih0 _ _ _ _ _ _ _ _ _ _)
   | (with_reducible exact ih1 _ _ _ _ _ _ _ _ _ _ _ _ _ _ _)
   | (with_reducible exact portreevelaw17_shown.mono _)
   | (with_reducible exact portreeveref04_Apply.mono _ _ _ _ _ _ _ _ _ _ _ _ _ _)
   | (with_reducible exact portreeveref04_Of.mono _ _ _ _ _ _)
   | (with_reducible exact portreeveref04_Right.mono _ _ _ _ _)
   | (with_reducible exact LeO.refl _)
   | (with_reducible exact LeO.none _)
   | (with_reducible refine LeO.ite ?_ ?_)
   | (with_reducible refine LeO.bind ?_ (fun _ => ?_))
   | exact ih0 _ _ _ _ _ _ _ _ _ _
   | exact ih1 _ _ _ _ _ _ _ _ _ _ _ _ _ _ _
   | exact portreevelaw17_shown.mono _
   | exact portreeveref04_Apply.mono _ _ _ _ _ _ _ _ _ _ _ _ _ _
   | exact portreeveref04_Of.mono _ _ _ _ _ _
   | exact portreeveref04_Right.mono _ _ _ _ _
   | exact LeO.none _
   | refine LeO.ite ?_ ?_
   | refine LeO.bind ?_ (fun _ => ?_)
def portreevelaw17_MeterOps.T11 : Bool × List (List Nat × List Nat) := (true, [([], []), ([], []), ([], []), ([2], [2]), ([1, 3], [1, 3]), ([0, 4, 4], [0, 4]), ([5], [5]), ([6], [6]), ([6], [6]), ([], []), ([9, 7, 5, 0, 1, 2, 3, 4, 5, 6, 7, 9], [7, 9]), ([8, 10, 0, 1, 2, 3, 4, 5, 6, 7, 8, 9, 10], [8])])
def portreevelaw17_MeterOps.B11 : List Nat := [0, 0, 0, 4, 14, 31, 63, 127, 127, 0, 767, 2047]
theorem portreevelaw17_MeterOps.tab11 : rtab .any (opsOf Try.f5 11) = portreevelaw17_MeterOps.T11 := by kernel_rfl
theorem portreevelaw17_MeterOps.bits11 : waitsOk portreevelaw17_MeterOps.T11.2 portreevelaw17_MeterOps.B11 = true := by kernel_rfl
def portreevelaw17_MeterOps.T12 : Bool × List (List Nat × List Nat) := (true, [([], []), ([], []), ([], []), ([2], [2]), ([], []), ([4], [4]), ([1, 3, 5], [1, 3, 5]), ([0, 6, 6], [0, 6]), ([7], [7]), ([8], [8]), ([8], [8]), ([], []), ([11, 9, 7, 0, 1, 2, 3, 4, 5, 6, 7, 8, 9, 11], [9, 11]), ([10, 12, 0, 1, 2, 3, 4, 5, 6, 7, 8, 9, 10, 11, 12], [10])])
def portreevelaw17_MeterOps.B12 : List Nat := [0, 0, 0, 4, 0, 16, 62, 127, 255, 511, 511, 0, 3071, 8191]
theorem portreevelaw17_MeterOps.tab12 : rtab .any (opsOf Try.f5 12) = portreevelaw17_MeterOps.T12 := by kernel_rfl
theorem portreevelaw17_MeterOps.bits12 : waitsOk portreevelaw17_MeterOps.T12.2 portreevelaw17_MeterOps.B12 = true := by kernel_rfl
def portreevelaw17_MeterOps.T13 : Bool × List (List Nat × List Nat) := (true, [([], []), ([0], [0]), ([1], [1]), ([2], [2]), ([2], [2]), ([4, 2], [2, 4]), ([3, 5, 2, 2], [2, 3, 5]), ([6, 2], [2, 6]), ([2, 7], [2, 7]), ([8, 6], [8]), ([9], [9]), ([10, 9], [9, 10]), ([9], [9]), ([12, 9], [9, 12]), ([13, 9], [9, 13]), ([14, 9], [9, 14]), ([11, 15, 9], [9, 11, 15]), ([16, 9], [9, 16]), ([17, 9], [9, 17]), ([9], [9]), ([19, 9], [9, 19]), ([18, 20, 9], [9, 18, 20]), ([9, 21], [9, 21]), ([22, 9], [22]), ([23], [23]), ([24, 23], [23, 24]), ([23], [23]), ([26, 23], [23, 26]), ([27, 23], [23, 27]), ([28, 23], [23, 28]), ([25, 29, 23], [23, 25, 29]), ([30, 23], [23, 30]), ([31, 23], [23, 31]), ([23], [23]), ([33, 23], [23, 33]), ([32, 34, 23], [23, 32, 34]), ([23, 35], [23, 35])])
def portreevelaw17_MeterOps.B13 : List Nat := [0, 1, 3, 7, 7, 23, 63, 127, 255, 511, 1023, 2047, 1023, 5119, 13311, 29695, 65535, 131071, 262143, 1023, 525311, 2097151, 4194303, 8388607, 16777215, 33554431, 16777215, 83886079, 218103807, 486539263, 1073741823, 2147483647, 4294967295, 16777215, 8606711807, 34359738367, 68719476735]
theorem portreevelaw17_MeterOps.tab13 : rtab .any (opsOf Try.f5 13) = portreevelaw17_MeterOps.T13 := by kernel_rfl
theorem portreevelaw17_MeterOps.bits13 : waitsOk portreevelaw17_MeterOps.T13.2 portreevelaw17_MeterOps.B13 = true := by kernel_rfl
def portreevelaw17_MeterOps.T17 : Bool × List (List Nat × List Nat) := (true, [([], []), ([0], [0]), ([1], [1]), ([2, 1], [1, 2]), ([1], [1]), ([3, 4, 1], [1, 3, 4]), ([5, 1], [1, 5]), ([6, 1], [1, 6]), ([1], [1]), ([8, 1], [1, 8]), ([7, 9, 1], [1, 7, 9]), ([1, 10], [1, 10]), ([11, 1], [11]), ([12], [12]), ([13, 12], [12, 13]), ([12], [12]), ([14, 15, 12], [12, 14, 15]), ([16, 12], [12, 16]), ([17, 12], [12, 17]), ([12], [12]), ([19, 12], [12, 19]), ([18, 20, 12], [12, 18, 20]), ([12, 21], [12, 21]), ([22, 12, 0, 1, 2, 3, 4, 5, 6, 7, 8, 9, 10, 11, 12, 13, 14, 15, 16, 17, 18, 19, 20, 21, 22], [22])])
def portreevelaw17_MeterOps.B17 : List Nat := [0, 1, 3, 7, 3, 31, 63, 127, 3, 259, 1023, 2047, 4095, 8191, 16383, 8191, 65535, 131071, 262143, 8191, 532479, 2097151, 4194303, 8388607]
theorem portreevelaw17_MeterOps.tab17 : rtab .any (opsOf Try.f5 17) = portreevelaw17_MeterOps.T17 := by kernel_rfl
theorem portreevelaw17_MeterOps.bits17 : waitsOk portreevelaw17_MeterOps.T17.2 portreevelaw17_MeterOps.B17 = true := by kernel_rfl
set_option maxHeartbeats 8000000 in
set_option maxRecDepth 100000 in
theorem portreevelaw17_MeterOps.calls (k : Nat) (am : Int) (bS : Option Addr) (aq : Nat) (aa : List (S51)) (ar : Option Addr) (au : Nat) (ak : List (S56)) (av : Option Addr) (aw : Nat) (an : List (S68)) (ab : Int) (aN : Int) (aO : Int) (aK : Int) (r : Bool) (w : World) (hlaw_ : Aside0 (r = true)) (hr0_1 : Kd.C k51 w bS aa.length aa) (hc0_1 : aa.length ≤ aq) (hr0_2 : Kd.C k56 w ar ak.length ak) (hc0_2 : ak.length ≤ au) (hr0_3 : Kd.C k68 w av an.length an) (hc0_3 : an.length ≤ aw) (h : portreevelaw17_MeterOps.f k am aa ak an ab aN aO aK = some r) :
  Calls Try.prog 5 #[.agg #[.int .i64 am, .slice bS aa.length aq, .slice ar ak.length au, .slice av an.length aw, .int .i64 ab, .int .i64 aN, .int .i64 aO, .int .u8 aK]] w fun e w' => e = .returned (.bool r) ∧ Below w.heap.size w w' := by
 have hu48 := Try.underlying48
 have hu46 := Try.underlying46
 have hu51 := Try.underlying51
 have hu24 := Try.underlying24
 have hu56 := Try.underlying56
 have bX := Aside0.mk hr0_1
 have HC0_1 := Aside0.mk hc0_1
 clear hr0_1 hc0_1
 have bZ := Aside0.mk hr0_2
 have HC0_2 := Aside0.mk hc0_2
 clear hr0_2 hc0_2
 have b0 := Aside0.mk hr0_3
 have HC0_3 := Aside0.mk hc0_3
 clear hr0_3 hc0_3
 have HB := Aside0.mk (Below.refl w.heap.size w)
 have H : ((portreevelaw17_shown.f k).bind fun bp => ((portreeveref04_Right.f k am aa ak an).bind fun cu => (if cu = true then (if ab < 0 then (portreevelaw17_MeterOps.j0 k ab aN aO aK bp true am aa ak an) else (portreevelaw17_MeterOps.j0 k ab aN aO aK bp (decide (ab ≥ (aa.length : Int))) am aa ak an)) else (portreevelaw17_MeterOps.j0 k ab aN aO aK bp true am aa ak an)))) = some r := h
 clear h
 replace H := Option.bind_eq_some_iff.mp H
 obtain ⟨bp, en, H⟩ := H
 replace H : ((portreeveref04_Right.f k am aa ak an).bind fun cu => (if cu = true then (if ab < 0 then (portreevelaw17_MeterOps.j0 k ab aN aO aK bp true am aa ak an) else (portreevelaw17_MeterOps.j0 k ab aN aO aK bp (decide (ab ≥ (aa.length : Int))) am aa ak an)) else (portreevelaw17_MeterOps.j0 k ab aN aO aK bp true am aa ak an))) = some r := H
 have A2 := Aside0.mk en
 clear en
 have HC3 := Aside0.mk H
 clear H
 go_enter Try.func5, Try.ntmps5
 go_upto_region 7 with (first | ((with_reducible refine gate_dst (N := 1) rfl ?_); (try (refine gate_guard (by rfl) ?_; dsimp only)); refine box_event ?hg (N := 1) ?hd (cs := #[.int .i64 am, .slice bS aa.length aq, .slice ar ak.length au, .slice av an.length aw, .int .i64 ab, .int .i64 aN, .int .i64 aO, .int .u8 aK]) (t := 48) ?hr ?_; (case hd => rfl); (case hg => rfl); (case hr => first | (go_simp; done) | (go_simp; rfl)); intro ao hg w4 hbox hb; have n0_ := Aside0.mk (below_step (zH HB.out) hb); have n1_ := Aside0.mk (hbox); have n2_ := Aside0.mk ((by rw [hg]; exact (below_size (zH HB.out)) : w.heap.size ≤ ao)); have n3_ := Aside0.mk ((by rw [hg]; exact (below_size (zH HB.out)) : w.heap.size ≤ ao)); clear HB; have HB := n0_; have al := n1_; have be := n2_; have aA := n3_; clear n0_ n1_ n2_ n3_; clear hb hbox hg; obtain ⟨di, dj, dk, dl, dm, dn, dp, dq, dr, dt, du, dv, dw, dx, dy, dz⟩ := bk8 al.out) | ((with_reducible refine gate_dst (N := 3) rfl ?_); (try (refine gate_guard (by rfl) ?_; dsimp only)); refine box_event ?hg (N := 3) ?hd (cs := #[.int .i64 0, .slice none 0 0, .slice none 0 0, .slice none 0 0]) (t := 46) ?hr ?_; (case hd => rfl); (case hg => rfl); (case hr => first | (go_simp; done) | (go_simp; rfl)); intro aj hg w6 hbox hb; have n0_ := Aside0.mk (blk_below (g := ao) (o := .cells #[.int .i64 am, .slice bS aa.length aq, .slice ar ak.length au, .slice av an.length aw, .int .i64 ab, .int .i64 aN, .int .i64 aO, .int .u8 aK] 48 (0, 0)) (zB al.out) hb); have n1_ := Aside0.mk (below_step (by repeat (first | (with_reducible first | exact HB.out | apply pA | apply pN | apply pD | refine pS ?_ aA.out) | exact HB.out)) hb); have n2_ := Aside0.mk (hbox); have n3_ := Aside0.mk ((by rw [hg]; exact (below_size (by repeat (first | (with_reducible first | exact HB.out | apply pA | apply pN | apply pD | refine pS ?_ aA.out) | exact HB.out))) : w.heap.size ≤ aj)); have n4_ := Aside0.mk ((by rw [hg]; exact (below_size (by repeat (first | (with_reducible first | exact HB.out | apply pA | apply pN | apply pD | refine pS ?_ aA.out) | exact HB.out))) : w.heap.size ≤ aj)); have n5_ := Aside0.mk ((by rw [hg]; exact Nat.ne_of_lt (blk_lt (g := ao) (o := .cells #[.int .i64 am, .slice bS aa.length aq, .slice ar ak.length au, .slice av an.length aw, .int .i64 ab, .int .i64 aN, .int .i64 aO, .int .u8 aK] 48 (0, 0)) (zB al.out)) : ao ≠ aj)); have n6_ := Aside0.mk ((by rw [hg]; exact Nat.ne_of_gt (blk_lt (g := ao) (o := .cells #[.int .i64 am, .slice bS aa.length aq, .slice ar ak.length au, .slice av an.length aw, .int .i64 ab, .int .i64 aN, .int .i64 aO, .int .u8 aK] 48 (0, 0)) (zB al.out)) : aj ≠ ao)); clear al; clear HB; have al := n0_; have HB := n1_; have ae := n2_; have bf := n3_; have aB := n4_; have bU := n5_; have bV := n6_; clear n0_ n1_ n2_ n3_ n4_ n5_ n6_; clear hb hbox hg; have fx := bV.out; have fy := bU.out; obtain ⟨dA, dB, dC, dD, dE, dF, dG, dH⟩ := bk4 ae.out; obtain ⟨dI, dJ, dK, dL, dM, dN, dO, dP, dQ, dR, dS, dT, dU, dV, dW, dX⟩ := bk8 al.out) | ((with_reducible refine gate_callee (f := 9) rfl ?_); refine goesL_ (some 25) rfl rfl Try.func9 (by kernel_rfl) rfl #[] rfl (by (try simp only [List.map_toArray, List.map_cons, List.map_nil]); first | done | rfl | (simp only [List.length_drop, List.length_take]; rfl)) ?_; (with_reducible refine (portreevelaw17_shown.calls k  bp _ A2.out).mono ?_); rintro e w10 ⟨rfl, hb⟩; refine ⟨_, rfl, ?_⟩; have n0_ := Aside0.mk (blk_below (g := ao) (o := .cells #[.int .i64 am, .slice bS aa.length aq, .slice ar ak.length au, .slice av an.length aw, .int .i64 ab, .int .i64 aN, .int .i64 aO, .int .u8 aK] 48 (0, 0)) (fB bU.out al.out) hb); have n1_ := Aside0.mk (blk_below (g := aj) (o := .cells #[.int .i64 am, .slice bS aa.length aq, .slice ar ak.length au, .slice av an.length aw] 46 (0, 0)) (by (with_reducible repeat (first | refine qN ?_ _ | refine qD ?_ | refine qA ?_ _)); refine blk_put (cs := #[.int .i64 am, .slice bS aa.length aq, .slice ar ak.length au, .slice none 0 0]) ?_ 3 _ rfl; (with_reducible repeat (first | refine qN ?_ _ | refine qD ?_ | refine qA ?_ _)); refine blk_put (cs := #[.int .i64 am, .slice bS aa.length aq, .slice none 0 0, .slice none 0 0]) ?_ 2 _ rfl; (with_reducible repeat (first | refine qN ?_ _ | refine qD ?_ | refine qA ?_ _)); refine blk_put (cs := #[.int .i64 am, .slice none 0 0, .slice none 0 0, .slice none 0 0]) ?_ 1 _ rfl; (with_reducible repeat (first | refine qN ?_ _ | refine qD ?_ | refine qA ?_ _)); refine blk_put (cs := #[.int .i64 0, .slice none 0 0, .slice none 0 0, .slice none 0 0]) ?_ 0 _ rfl; (with_reducible repeat (first | refine qN ?_ _ | refine qD ?_ | refine qA ?_ _)); exact ae.out) hb); have n2_ := Aside0.mk (below_step (by repeat (first | (with_reducible first | exact HB.out | apply pA | apply pN | apply pD | refine pS ?_ aA.out | refine pS ?_ aB.out) | exact HB.out)) hb); clear al; clear ae; clear HB; have al := n0_; have ae := n1_; have HB := n2_; clear n0_ n1_ n2_; (try clear hb); (try clear hb2); (try clear hk); (try clear hi)))
 (try simp only [Act.put, sT, s0, s1])
 go_cut [39] (fun v39 wc => ∃ (kq : Nat) (cA : Bool), v39 = .bool cA ∧ Aside0 (portreevelaw17_MeterOps.j0 kq ab aN aO aK bp cA am aa ak an = some r) ∧ Aside0 (kq ≤ k) ∧ Aside0 (wc.heap[ao]? = some (.cells #[.int .i64 am, (.slice bS aa.length aq), (.slice ar ak.length au), (.slice av an.length aw), .int .i64 ab, .int .i64 aN, .int .i64 aO, .int .u8 aK] 48 (0, 0))) ∧ Aside0 (wc.heap[aj]? = some (.cells #[.int .i64 am, (.slice bS aa.length aq), (.slice ar ak.length au), (.slice av an.length aw)] 46 (0, 0))) ∧ Aside0 (Below w.heap.size w wc))
 case first =>
  have H := HC3.out
  clear HC3
  replace H := Option.bind_eq_some_iff.mp H
  obtain ⟨cu, dY, H⟩ := H
  replace H : (if cu = true then (if ab < 0 then (portreevelaw17_MeterOps.j0 k ab aN aO aK bp true am aa ak an) else (portreevelaw17_MeterOps.j0 k ab aN aO aK bp (decide (ab ≥ (aa.length : Int))) am aa ak an)) else (portreevelaw17_MeterOps.j0 k ab aN aO aK bp true am aa ak an)) = some r := H
  have dZ := Aside0.mk dY
  clear dY
  by_cases c12 : cu = true
  ·subst c12
   have H1 : (if ab < 0 then (portreevelaw17_MeterOps.j0 k ab aN aO aK bp true am aa ak an) else (portreevelaw17_MeterOps.j0 k ab aN aO aK bp (decide (ab ≥ (aa.length : Int))) am aa ak an)) = some r := by rw [if_pos rfl] at H; exact H
   clear H
   have H := H1
   clear H1
   by_cases c13 : ab < 0
   ·rw [if_pos c13] at H
    have cq : decide (ab < 0) = true := decide_eq_true c13
    clear c13
    (first | rw [cq] | (simp only [i64_w, i32_w]; rw [cq]) | skip)
    have H' := Aside0.mk H
    clear H
    have e3 := bV.out
    have e4 := bU.out
    obtain ⟨cH, cI, cJ, cK, cL, cM, cN, cO⟩ := bk4 ae.out
    go_wp2_with (first | ((with_reducible refine gate_callee (f := 22) rfl ?_); refine goesL_ (some 27) rfl rfl Try.func22 (by kernel_rfl) rfl #[.agg #[.int .i64 am, .slice bS aa.length aq, .slice ar ak.length au, .slice av an.length aw]] rfl (by (try simp only [List.map_toArray, List.map_cons, List.map_nil]); first | done | rfl | (simp only [List.length_drop, List.length_take]; rfl)) ?_; (with_reducible refine (portreeveref04_Right.calls k am _ _ aa _ _ ak _ _ an true _ ?side1 ?side2 ?side3 ?side4 ?side5 ?side6 dZ.out).mono ?_); (case side1 => repeat (first | exact (Kd.C_below bX.out HB.out) | (with_reducible refine Kd.C_alloc ?_ _) | (with_reducible refine Kd.C_drewN ?_ _) | (with_reducible refine Kd.C_drew ?_))); (case side2 => exact HC0_1.out); (case side3 => repeat (first | exact (Kd.C_below bZ.out HB.out) | (with_reducible refine Kd.C_alloc ?_ _) | (with_reducible refine Kd.C_drewN ?_ _) | (with_reducible refine Kd.C_drew ?_))); (case side4 => exact HC0_2.out); (case side5 => repeat (first | exact (Kd.C_below b0.out HB.out) | (with_reducible refine Kd.C_alloc ?_ _) | (with_reducible refine Kd.C_drewN ?_ _) | (with_reducible refine Kd.C_drew ?_))); (case side6 => exact HC0_3.out); rintro e w16 ⟨rfl, hb⟩; refine ⟨_, rfl, ?_⟩; have n0_ := Aside0.mk (blk_below (g := ao) (o := .cells #[.int .i64 am, .slice bS aa.length aq, .slice ar ak.length au, .slice av an.length aw, .int .i64 ab, .int .i64 aN, .int .i64 aO, .int .u8 aK] 48 (0, 0)) (zB al.out) hb); have n1_ := Aside0.mk (blk_below (g := aj) (o := .cells #[.int .i64 am, .slice bS aa.length aq, .slice ar ak.length au, .slice av an.length aw] 46 (0, 0)) (zB ae.out) hb); have n2_ := Aside0.mk (below_step (by repeat (first | (with_reducible first | exact HB.out | apply pA | apply pN | apply pD | refine pS ?_ aA.out | refine pS ?_ aB.out) | exact HB.out)) hb); clear al; clear ae; clear HB; have al := n0_; have ae := n1_; have HB := n2_; clear n0_ n1_ n2_; (try clear hb); (try clear hb2); (try clear hk); (try clear hi)))
    go_meet
    case rel => exact ⟨_, (true), (by first | rfl | (simp; done) | (simp [*]; done)), H', ⟨by first | omega | exact Nat.le_refl _⟩, ⟨zB al.out⟩, ⟨zB ae.out⟩, ⟨by repeat (first | (with_reducible first | exact HB.out | apply pA | apply pN | apply pD | refine pS ?_ aA.out | refine pS ?_ aB.out) | exact HB.out)⟩⟩
   ·rw [if_neg c13] at H
    have cq : decide (ab < 0) = false := decide_eq_false c13
    clear c13
    (first | rw [cq] | (simp only [i64_w, i32_w]; rw [cq]) | skip)
    have H' := Aside0.mk H
    clear H
    have e5 := bV.out
    have e6 := bU.out
    obtain ⟨cP, cQ, cR, cS, cT, cU, cV, cW⟩ := bk4 ae.out
    go_wp2_with (first | ((with_reducible refine gate_callee (f := 22) rfl ?_); refine goesL_ (some 27) rfl rfl Try.func22 (by kernel_rfl) rfl #[.agg #[.int .i64 am, .slice bS aa.length aq, .slice ar ak.length au, .slice av an.length aw]] rfl (by (try simp only [List.map_toArray, List.map_cons, List.map_nil]); first | done | rfl | (simp only [List.length_drop, List.length_take]; rfl)) ?_; (with_reducible refine (portreeveref04_Right.calls k am _ _ aa _ _ ak _ _ an true _ ?side1 ?side2 ?side3 ?side4 ?side5 ?side6 dZ.out).mono ?_); (case side1 => repeat (first | exact (Kd.C_below bX.out HB.out) | (with_reducible refine Kd.C_alloc ?_ _) | (with_reducible refine Kd.C_drewN ?_ _) | (with_reducible refine Kd.C_drew ?_))); (case side2 => exact HC0_1.out); (case side3 => repeat (first | exact (Kd.C_below bZ.out HB.out) | (with_reducible refine Kd.C_alloc ?_ _) | (with_reducible refine Kd.C_drewN ?_ _) | (with_reducible refine Kd.C_drew ?_))); (case side4 => exact HC0_2.out); (case side5 => repeat (first | exact (Kd.C_below b0.out HB.out) | (with_reducible refine Kd.C_alloc ?_ _) | (with_reducible refine Kd.C_drewN ?_ _) | (with_reducible refine Kd.C_drew ?_))); (case side6 => exact HC0_3.out); rintro e w19 ⟨rfl, hb⟩; refine ⟨_, rfl, ?_⟩; have n0_ := Aside0.mk (blk_below (g := ao) (o := .cells #[.int .i64 am, .slice bS aa.length aq, .slice ar ak.length au, .slice av an.length aw, .int .i64 ab, .int .i64 aN, .int .i64 aO, .int .u8 aK] 48 (0, 0)) (zB al.out) hb); have n1_ := Aside0.mk (blk_below (g := aj) (o := .cells #[.int .i64 am, .slice bS aa.length aq, .slice ar ak.length au, .slice av an.length aw] 46 (0, 0)) (zB ae.out) hb); have n2_ := Aside0.mk (below_step (by repeat (first | (with_reducible first | exact HB.out | apply pA | apply pN | apply pD | refine pS ?_ aA.out | refine pS ?_ aB.out) | exact HB.out)) hb); clear al; clear ae; clear HB; have al := n0_; have ae := n1_; have HB := n2_; clear n0_ n1_ n2_; (try clear hb); (try clear hb2); (try clear hk); (try clear hi); obtain ⟨cX, cY, cZ, c0, c3, c4, c6, c8⟩ := bk4 ae.out))
    go_meet
    case rel => exact ⟨_, (decide (ab ≥ (aa.length : Int))), (by first | rfl | (simp; done) | (simp [*]; done)), H', ⟨by first | omega | exact Nat.le_refl _⟩, ⟨zB al.out⟩, ⟨zB ae.out⟩, ⟨by repeat (first | (with_reducible first | exact HB.out | apply pA | apply pN | apply pD | refine pS ?_ aA.out | refine pS ?_ aB.out) | exact HB.out)⟩⟩
  ·replace c12 := Bool.eq_false_iff.mpr c12
   subst c12
   have H1 : (portreevelaw17_MeterOps.j0 k ab aN aO aK bp true am aa ak an) = some r := by rw [if_neg (show ¬ (false = true) by decide)] at H; exact H
   clear H
   have H := H1
   clear H1
   have H' := Aside0.mk H
   clear H
   have e7 := bV.out
   have e8 := bU.out
   obtain ⟨da, db, dc, dd, de, df, dg, dh⟩ := bk4 ae.out
   go_wp2_with (first | ((with_reducible refine gate_callee (f := 22) rfl ?_); refine goesL_ (some 27) rfl rfl Try.func22 (by kernel_rfl) rfl #[.agg #[.int .i64 am, .slice bS aa.length aq, .slice ar ak.length au, .slice av an.length aw]] rfl (by (try simp only [List.map_toArray, List.map_cons, List.map_nil]); first | done | rfl | (simp only [List.length_drop, List.length_take]; rfl)) ?_; (with_reducible refine (portreeveref04_Right.calls k am _ _ aa _ _ ak _ _ an false _ ?side1 ?side2 ?side3 ?side4 ?side5 ?side6 dZ.out).mono ?_); (case side1 => repeat (first | exact (Kd.C_below bX.out HB.out) | (with_reducible refine Kd.C_alloc ?_ _) | (with_reducible refine Kd.C_drewN ?_ _) | (with_reducible refine Kd.C_drew ?_))); (case side2 => exact HC0_1.out); (case side3 => repeat (first | exact (Kd.C_below bZ.out HB.out) | (with_reducible refine Kd.C_alloc ?_ _) | (with_reducible refine Kd.C_drewN ?_ _) | (with_reducible refine Kd.C_drew ?_))); (case side4 => exact HC0_2.out); (case side5 => repeat (first | exact (Kd.C_below b0.out HB.out) | (with_reducible refine Kd.C_alloc ?_ _) | (with_reducible refine Kd.C_drewN ?_ _) | (with_reducible refine Kd.C_drew ?_))); (case side6 => exact HC0_3.out); rintro e w23 ⟨rfl, hb⟩; refine ⟨_, rfl, ?_⟩; have n0_ := Aside0.mk (blk_below (g := ao) (o := .cells #[.int .i64 am, .slice bS aa.length aq, .slice ar ak.length au, .slice av an.length aw, .int .i64 ab, .int .i64 aN, .int .i64 aO, .int .u8 aK] 48 (0, 0)) (zB al.out) hb); have n1_ := Aside0.mk (blk_below (g := aj) (o := .cells #[.int .i64 am, .slice bS aa.length aq, .slice ar ak.length au, .slice av an.length aw] 46 (0, 0)) (zB ae.out) hb); have n2_ := Aside0.mk (below_step (by repeat (first | (with_reducible first | exact HB.out | apply pA | apply pN | apply pD | refine pS ?_ aA.out | refine pS ?_ aB.out) | exact HB.out)) hb); clear al; clear ae; clear HB; have al := n0_; have ae := n1_; have HB := n2_; clear n0_ n1_ n2_; (try clear hb); (try clear hb2); (try clear hk); (try clear hi)))
   go_meet
   case rel => exact ⟨_, (true), (by first | rfl | (simp; done) | (simp [*]; done)), H', ⟨by first | omega | exact Nat.le_refl _⟩, ⟨zB al.out⟩, ⟨zB ae.out⟩, ⟨by repeat (first | (with_reducible first | exact HB.out | apply pA | apply pN | apply pD | refine pS ?_ aA.out | refine pS ?_ aB.out) | exact HB.out)⟩⟩
 case rest =>
  clear HC3
  try clear c1
  try clear c2
  try clear p2
  try clear c5
  try clear c7
  try clear c9
  try clear c12
  try clear c13
  try clear cq
  try clear c14
  try clear c17
  try clear c21
  try clear c22
  try clear cH
  try clear cI
  try clear cJ
  try clear cK
  try clear cP
  try clear cQ
  try clear cR
  try clear cS
  try clear cX
  try clear cY
  try clear cZ
  try clear c0
  try clear da
  try clear db
  try clear dc
  try clear dd
  try clear di
  try clear dj
  try clear dk
  try clear dl
  try clear dm
  try clear dn
  try clear dp
  try clear dq
  try clear dA
  try clear dB
  try clear dC
  try clear dD
  try clear dI
  try clear dJ
  try clear dK
  try clear dL
  try clear dM
  try clear dN
  try clear dO
  try clear dP
  try clear cL
  try clear cM
  try clear cN
  try clear cO
  try clear cT
  try clear cU
  try clear cV
  try clear cW
  try clear c3
  try clear c4
  try clear c6
  try clear c8
  try clear de
  try clear df
  try clear dg
  try clear dh
  try clear dr
  try clear dt
  try clear du
  try clear dv
  try clear dw
  try clear dx
  try clear dy
  try clear dz
  try clear dE
  try clear dF
  try clear dG
  try clear dH
  try clear dQ
  try clear dR
  try clear dS
  try clear dT
  try clear dU
  try clear dV
  try clear dW
  try clear dX
  obtain ⟨kq, cA, rfl, HA, cE, al, ae, HB⟩ := hcut
  cases kq with
  | zero => exact absurd HA.out (by simp [portreevelaw17_MeterOps.j0])
  | succ bu =>
   have H := HA.out
   clear HA
   simp only [portreevelaw17_MeterOps.j0] at H
   by_cases c24 : cA = true
   ·subst c24
    have H1 : (some bp) = some r := by rw [if_pos rfl] at H; exact H
    clear H
    have H := H1
    clear H1
    clear hlaw_
    obtain rfl := Option.some.inj H
    go_wp2
    go_ret
    exact ⟨by first | rfl | (simp [errW_none, errW_some] <;> rfl) | (simp [*, errW_none, errW_some] <;> rfl), by repeat (first | (with_reducible first | exact HB.out | apply pA | apply pN | apply pD | refine pS ?_ aA.out | refine pS ?_ aB.out) | exact HB.out)⟩
   ·replace c24 := Bool.eq_false_iff.mpr c24
    subst c24
    have H1 : (if 0 ≤ ab then (if ab < (aa.length : Int) then ((meter_Count.f ((rd_T51 aa ab).f4) ((rd_T51 aa ab).f5) 0 aN aO).bind fun bJ => ((meter_Note.f bJ.1 bJ.2.1 bJ.2.2 ((rd_T51 aa ab).f0)).bind fun bK => ((portreeveref04_Apply.f bu am aa ak an bK.1 bK.2.1 bK.2.2.1 bK.2.2.2.1 bK.2.2.2.2.1 bK.2.2.2.2.2.1 bK.2.2.2.2.2.2.1 bK.2.2.2.2.2.2.2.1 bK.2.2.2.2.2.2.2.2).bind fun aZ => ((meter_Stop.f bJ.1 bJ.2.1 bJ.2.2 ((rd_T51 aa ab).f0) (wrap64 (aK))).bind fun bq => ((portreeveref04_Apply.f bu am aa ak an bq.1 bq.2.1 bq.2.2.1 bq.2.2.2.1 bq.2.2.2.2.1 bq.2.2.2.2.2.1 bq.2.2.2.2.2.2.1 bq.2.2.2.2.2.2.2.1 bq.2.2.2.2.2.2.2.2).bind fun aW => (if aW.2.2.2.2 = 0 then ((portreeveref04_Of.f bu aW.1 aW.2.1 aW.2.2.1 aW.2.2.2.1 ((rd_T51 aa ab).f0)).bind fun bT => (if bT ≥ 0 then (portreevelaw17_MeterOps.j1 bu ab bp aZ.2.2.2.2 true am aa ak an bJ.1 bJ.2.1 bJ.2.2 aZ.1 aZ.2.1 aZ.2.2.1 aZ.2.2.2.1) else (if 0 ≤ (wrap64 ((aW.2.2.1.length : Int) - 1)) then (if (wrap64 ((aW.2.2.1.length : Int) - 1)) < (aW.2.2.1.length : Int) then (if ((rd_T56 aW.2.2.1 (wrap64 ((aW.2.2.1.length : Int) - 1))).f2) = bJ.1 then (portreevelaw17_MeterOps.j1 bu ab bp aZ.2.2.2.2 (((rd_T56 aW.2.2.1 (wrap64 ((aW.2.2.1.length : Int) - 1))).f4) != (wrap64 (aK))) am aa ak an bJ.1 bJ.2.1 bJ.2.2 aZ.1 aZ.2.1 aZ.2.2.1 aZ.2.2.2.1) else (portreevelaw17_MeterOps.j1 bu ab bp aZ.2.2.2.2 true am aa ak an bJ.1 bJ.2.1 bJ.2.2 aZ.1 aZ.2.1 aZ.2.2.1 aZ.2.2.2.1)) else (none)) else (none)))) else (portreevelaw17_MeterOps.j1 bu ab bp aZ.2.2.2.2 true am aa ak an bJ.1 bJ.2.1 bJ.2.2 aZ.1 aZ.2.1 aZ.2.2.1 aZ.2.2.2.1))))))) else (none)) else (none)) = some r := by rw [if_neg (show ¬ (false = true) by decide)] at H; exact H
    clear H
    have H := H1
    clear H1
    by_cases c25 : 0 ≤ ab
    ·rw [if_pos c25] at H
     have e9 : decide (0 ≤ ab) = true := decide_eq_true c25
     clear c25
     by_cases c26 : ab < (aa.length : Int)
     ·rw [if_pos c26] at H
      have fa : decide (ab < (aa.length : Int)) = true := decide_eq_true c26
      clear c26
      replace H := Option.bind_eq_some_iff.mp H
      obtain ⟨⟨az, aD, aE⟩, d0, H⟩ := H
      replace H : ((meter_Note.f az aD aE ((rd_T51 aa ab).f0)).bind fun bK => ((portreeveref04_Apply.f bu am aa ak an bK.1 bK.2.1 bK.2.2.1 bK.2.2.2.1 bK.2.2.2.2.1 bK.2.2.2.2.2.1 bK.2.2.2.2.2.2.1 bK.2.2.2.2.2.2.2.1 bK.2.2.2.2.2.2.2.2).bind fun aZ => ((meter_Stop.f az aD aE ((rd_T51 aa ab).f0) (wrap64 (aK))).bind fun bq => ((portreeveref04_Apply.f bu am aa ak an bq.1 bq.2.1 bq.2.2.1 bq.2.2.2.1 bq.2.2.2.2.1 bq.2.2.2.2.2.1 bq.2.2.2.2.2.2.1 bq.2.2.2.2.2.2.2.1 bq.2.2.2.2.2.2.2.2).bind fun aW => (if aW.2.2.2.2 = 0 then ((portreeveref04_Of.f bu aW.1 aW.2.1 aW.2.2.1 aW.2.2.2.1 ((rd_T51 aa ab).f0)).bind fun bT => (if bT ≥ 0 then (portreevelaw17_MeterOps.j1 bu ab bp aZ.2.2.2.2 true am aa ak an az aD aE aZ.1 aZ.2.1 aZ.2.2.1 aZ.2.2.2.1) else (if 0 ≤ (wrap64 ((aW.2.2.1.length : Int) - 1)) then (if (wrap64 ((aW.2.2.1.length : Int) - 1)) < (aW.2.2.1.length : Int) then (if ((rd_T56 aW.2.2.1 (wrap64 ((aW.2.2.1.length : Int) - 1))).f2) = az then (portreevelaw17_MeterOps.j1 bu ab bp aZ.2.2.2.2 (((rd_T56 aW.2.2.1 (wrap64 ((aW.2.2.1.length : Int) - 1))).f4) != (wrap64 (aK))) am aa ak an az aD aE aZ.1 aZ.2.1 aZ.2.2.1 aZ.2.2.2.1) else (portreevelaw17_MeterOps.j1 bu ab bp aZ.2.2.2.2 true am aa ak an az aD aE aZ.1 aZ.2.1 aZ.2.2.1 aZ.2.2.2.1)) else (none)) else (none)))) else (portreevelaw17_MeterOps.j1 bu ab bp aZ.2.2.2.2 true am aa ak an az aD aE aZ.1 aZ.2.1 aZ.2.2.1 aZ.2.2.2.1)))))) = some r := H
      have eY := Aside0.mk d0
      clear d0
      replace H := Option.bind_eq_some_iff.mp H
      obtain ⟨⟨b6, b7, b8, b9, ca, cb, cc, cd, ce⟩, d1, H⟩ := H
      replace H : ((portreeveref04_Apply.f bu am aa ak an b6 b7 b8 b9 ca cb cc cd ce).bind fun aZ => ((meter_Stop.f az aD aE ((rd_T51 aa ab).f0) (wrap64 (aK))).bind fun bq => ((portreeveref04_Apply.f bu am aa ak an bq.1 bq.2.1 bq.2.2.1 bq.2.2.2.1 bq.2.2.2.2.1 bq.2.2.2.2.2.1 bq.2.2.2.2.2.2.1 bq.2.2.2.2.2.2.2.1 bq.2.2.2.2.2.2.2.2).bind fun aW => (if aW.2.2.2.2 = 0 then ((portreeveref04_Of.f bu aW.1 aW.2.1 aW.2.2.1 aW.2.2.2.1 ((rd_T51 aa ab).f0)).bind fun bT => (if bT ≥ 0 then (portreevelaw17_MeterOps.j1 bu ab bp aZ.2.2.2.2 true am aa ak an az aD aE aZ.1 aZ.2.1 aZ.2.2.1 aZ.2.2.2.1) else (if 0 ≤ (wrap64 ((aW.2.2.1.length : Int) - 1)) then (if (wrap64 ((aW.2.2.1.length : Int) - 1)) < (aW.2.2.1.length : Int) then (if ((rd_T56 aW.2.2.1 (wrap64 ((aW.2.2.1.length : Int) - 1))).f2) = az then (portreevelaw17_MeterOps.j1 bu ab bp aZ.2.2.2.2 (((rd_T56 aW.2.2.1 (wrap64 ((aW.2.2.1.length : Int) - 1))).f4) != (wrap64 (aK))) am aa ak an az aD aE aZ.1 aZ.2.1 aZ.2.2.1 aZ.2.2.2.1) else (portreevelaw17_MeterOps.j1 bu ab bp aZ.2.2.2.2 true am aa ak an az aD aE aZ.1 aZ.2.1 aZ.2.2.1 aZ.2.2.2.1)) else (none)) else (none)))) else (portreevelaw17_MeterOps.j1 bu ab bp aZ.2.2.2.2 true am aa ak an az aD aE aZ.1 aZ.2.1 aZ.2.2.1 aZ.2.2.2.1))))) = some r := H
      have eo := Aside0.mk d1
      clear d1
      replace H := Option.bind_eq_some_iff.mp H
      obtain ⟨⟨bb, aF, aS, aT, bF⟩, d2, H⟩ := H
      replace H : ((meter_Stop.f az aD aE ((rd_T51 aa ab).f0) (wrap64 (aK))).bind fun bq => ((portreeveref04_Apply.f bu am aa ak an bq.1 bq.2.1 bq.2.2.1 bq.2.2.2.1 bq.2.2.2.2.1 bq.2.2.2.2.2.1 bq.2.2.2.2.2.2.1 bq.2.2.2.2.2.2.2.1 bq.2.2.2.2.2.2.2.2).bind fun aW => (if aW.2.2.2.2 = 0 then ((portreeveref04_Of.f bu aW.1 aW.2.1 aW.2.2.1 aW.2.2.2.1 ((rd_T51 aa ab).f0)).bind fun bT => (if bT ≥ 0 then (portreevelaw17_MeterOps.j1 bu ab bp bF true am aa ak an az aD aE bb aF aS aT) else (if 0 ≤ (wrap64 ((aW.2.2.1.length : Int) - 1)) then (if (wrap64 ((aW.2.2.1.length : Int) - 1)) < (aW.2.2.1.length : Int) then (if ((rd_T56 aW.2.2.1 (wrap64 ((aW.2.2.1.length : Int) - 1))).f2) = az then (portreevelaw17_MeterOps.j1 bu ab bp bF (((rd_T56 aW.2.2.1 (wrap64 ((aW.2.2.1.length : Int) - 1))).f4) != (wrap64 (aK))) am aa ak an az aD aE bb aF aS aT) else (portreevelaw17_MeterOps.j1 bu ab bp bF true am aa ak an az aD aE bb aF aS aT)) else (none)) else (none)))) else (portreevelaw17_MeterOps.j1 bu ab bp bF true am aa ak an az aD aE bb aF aS aT)))) = some r := H
      have d3 := Aside0.mk d2
      clear d2
      replace H := Option.bind_eq_some_iff.mp H
      obtain ⟨⟨cf, cg, ch, ci, cj, ck, cl, cm, cn⟩, d4, H⟩ := H
      replace H : ((portreeveref04_Apply.f bu am aa ak an cf cg ch ci cj ck cl cm cn).bind fun aW => (if aW.2.2.2.2 = 0 then ((portreeveref04_Of.f bu aW.1 aW.2.1 aW.2.2.1 aW.2.2.2.1 ((rd_T51 aa ab).f0)).bind fun bT => (if bT ≥ 0 then (portreevelaw17_MeterOps.j1 bu ab bp bF true am aa ak an az aD aE bb aF aS aT) else (if 0 ≤ (wrap64 ((aW.2.2.1.length : Int) - 1)) then (if (wrap64 ((aW.2.2.1.length : Int) - 1)) < (aW.2.2.1.length : Int) then (if ((rd_T56 aW.2.2.1 (wrap64 ((aW.2.2.1.length : Int) - 1))).f2) = az then (portreevelaw17_MeterOps.j1 bu ab bp bF (((rd_T56 aW.2.2.1 (wrap64 ((aW.2.2.1.length : Int) - 1))).f4) != (wrap64 (aK))) am aa ak an az aD aE bb aF aS aT) else (portreevelaw17_MeterOps.j1 bu ab bp bF true am aa ak an az aD aE bb aF aS aT)) else (none)) else (none)))) else (portreevelaw17_MeterOps.j1 bu ab bp bF true am aa ak an az aD aE bb aF aS aT))) = some r := H
      have ep := Aside0.mk d4
      clear d4
      replace H := Option.bind_eq_some_iff.mp H
      obtain ⟨⟨aP, aM, ay, aR, bY⟩, d5, H⟩ := H
      replace H : (if bY = 0 then ((portreeveref04_Of.f bu aP aM ay aR ((rd_T51 aa ab).f0)).bind fun bT => (if bT ≥ 0 then (portreevelaw17_MeterOps.j1 bu ab bp bF true am aa ak an az aD aE bb aF aS aT) else (if 0 ≤ (wrap64 ((ay.length : Int) - 1)) then (if (wrap64 ((ay.length : Int) - 1)) < (ay.length : Int) then (if ((rd_T56 ay (wrap64 ((ay.length : Int) - 1))).f2) = az then (portreevelaw17_MeterOps.j1 bu ab bp bF (((rd_T56 ay (wrap64 ((ay.length : Int) - 1))).f4) != (wrap64 (aK))) am aa ak an az aD aE bb aF aS aT) else (portreevelaw17_MeterOps.j1 bu ab bp bF true am aa ak an az aD aE bb aF aS aT)) else (none)) else (none)))) else (portreevelaw17_MeterOps.j1 bu ab bp bF true am aa ak an az aD aE bb aF aS aT)) = some r := H
      have d6 := Aside0.mk d5
      clear d5
      have HC32 := Aside0.mk H
      clear H
      have fb := bV.out
      have fc := bU.out
      obtain ⟨ey, ez, eA, eB, eC, eD, eE, eF⟩ := bk4 ae.out
      have p431 : 0 ≤ (ab : Int) := of_decide_eq_true (by first | (with_reducible assumption) | assumption)
      have q431 : ab < (aa.length : Int) := of_decide_eq_true (by first | (with_reducible assumption) | assumption)
      obtain ⟨ap, e431, hx431_0, hx431_1, hx431_2, hx431_3, hx431_4, hx431_5⟩ := at_T51 bX.out ab p431 q431
      cases e431
      replace hx431_0 := (HB.out.cell (World.block_lt_of_cell? w _ hx431_0)).trans hx431_0
      replace hx431_1 := (HB.out.cell (World.block_lt_of_cell? w _ hx431_1)).trans hx431_1
      replace hx431_2 := (HB.out.cell (World.block_lt_of_cell? w _ hx431_2)).trans hx431_2
      replace hx431_3 := (HB.out.cell (World.block_lt_of_cell? w _ hx431_3)).trans hx431_3
      replace hx431_4 := (HB.out.cell (World.block_lt_of_cell? w _ hx431_4)).trans hx431_4
      replace hx431_5 := (HB.out.cell (World.block_lt_of_cell? w _ hx431_5)).trans hx431_5
      replace p431 := eq_true p431
      replace q431 := eq_true q431
      try go_wp2_with (first | ((with_reducible refine gate_dst (N := 9) rfl ?_); (try (refine gate_guard (by rfl) ?_; dsimp only)); refine box_event ?hg (N := 9) ?hd (cs := #[.int .i64 0, .int .i64 0, .int .u32 0, .string (⟨#[]⟩ : ByteArray), .int .u64 0, .int .u64 0]) (t := 51) ?hr ?_; (case hd => rfl); (case hg => rfl); (case hr => first | (go_simp; done) | (go_simp; rfl)); intro ah hg w35 hbox hb; have n0_ := Aside0.mk (blk_below (g := ao) (o := .cells #[.int .i64 am, .slice (some ap) aa.length aq, .slice ar ak.length au, .slice av an.length aw, .int .i64 ab, .int .i64 aN, .int .i64 aO, .int .u8 aK] 48 (0, 0)) (zB al.out) hb); have n1_ := Aside0.mk (blk_below (g := aj) (o := .cells #[.int .i64 am, .slice (some ap) aa.length aq, .slice ar ak.length au, .slice av an.length aw] 46 (0, 0)) (zB ae.out) hb); have n2_ := Aside0.mk (below_step (by repeat (first | (with_reducible first | exact HB.out | apply pA | apply pN | apply pD | refine pS ?_ aA.out | refine pS ?_ aB.out) | exact HB.out)) hb); have n3_ := Aside0.mk (hbox); have n4_ := Aside0.mk ((by rw [hg]; exact (below_size (by repeat (first | (with_reducible first | exact HB.out | apply pA | apply pN | apply pD | refine pS ?_ aA.out | refine pS ?_ aB.out) | exact HB.out))) : w.heap.size ≤ ah)); have n5_ := Aside0.mk ((by rw [hg]; exact (below_size (by repeat (first | (with_reducible first | exact HB.out | apply pA | apply pN | apply pD | refine pS ?_ aA.out | refine pS ?_ aB.out) | exact HB.out))) : w.heap.size ≤ ah)); have n6_ := Aside0.mk ((by rw [hg]; exact Nat.ne_of_lt (blk_lt (g := ao) (o := .cells #[.int .i64 am, .slice (some ap) aa.length aq, .slice ar ak.length au, .slice av an.length aw, .int .i64 ab, .int .i64 aN, .int .i64 aO, .int .u8 aK] 48 (0, 0)) (zB al.out)) : ao ≠ ah)); have n7_ := Aside0.mk ((by rw [hg]; exact Nat.ne_of_gt (blk_lt (g := ao) (o := .cells #[.int .i64 am, .slice (some ap) aa.length aq, .slice ar ak.length au, .slice av an.length aw, .int .i64 ab, .int .i64 aN, .int .i64 aO, .int .u8 aK] 48 (0, 0)) (zB al.out)) : ah ≠ ao)); have n8_ := Aside0.mk ((by rw [hg]; exact Nat.ne_of_lt (blk_lt (g := aj) (o := .cells #[.int .i64 am, .slice (some ap) aa.length aq, .slice ar ak.length au, .slice av an.length aw] 46 (0, 0)) (zB ae.out)) : aj ≠ ah)); have n9_ := Aside0.mk ((by rw [hg]; exact Nat.ne_of_gt (blk_lt (g := aj) (o := .cells #[.int .i64 am, .slice (some ap) aa.length aq, .slice ar ak.length au, .slice av an.length aw] 46 (0, 0)) (zB ae.out)) : ah ≠ aj)); clear al; clear ae; clear HB; have al := n0_; have ae := n1_; have HB := n2_; have ad := n3_; have bg := n4_; have aG := n5_; have cv := n6_; have cB := n7_; have co := n8_; have cw := n9_; clear n0_ n1_ n2_ n3_ n4_ n5_ n6_ n7_ n8_ n9_; clear hb hbox hg; have fd := cB.out; have fe := cv.out; have ff := cw.out; have fg := co.out; obtain ⟨eG, eH, eI, eJ, eK, eL, eM, eN, eO, eP, eQ, eR⟩ := bk6 ad.out) | ((with_reducible refine gate_callee (f := 16) rfl ?_); refine goesL_ (some 53) rfl rfl Try.func16 (by kernel_rfl) rfl #[.agg #[.int .u64 ((rd_T51 aa ab).f4), .int .u64 ((rd_T51 aa ab).f5), .int .i64 0], .int .i64 aN, .int .i64 aO] rfl (by (try simp only [List.map_toArray, List.map_cons, List.map_nil]); first | done | rfl | (simp only [List.length_drop, List.length_take]; rfl)) ?_; (with_reducible refine (meter_Count.calls ((rd_T51 aa ab).f4) ((rd_T51 aa ab).f5) 0 aN aO az aD aE _ eY.out).mono ?_); rintro e w39 ⟨rfl, hb⟩; refine ⟨_, rfl, ?_⟩; have n0_ := Aside0.mk (blk_below (g := ao) (o := .cells #[.int .i64 am, .slice (some ap) aa.length aq, .slice ar ak.length au, .slice av an.length aw, .int .i64 ab, .int .i64 aN, .int .i64 aO, .int .u8 aK] 48 (0, 0)) (fB cv.out al.out) hb); have n1_ := Aside0.mk (blk_below (g := aj) (o := .cells #[.int .i64 am, .slice (some ap) aa.length aq, .slice ar ak.length au, .slice av an.length aw] 46 (0, 0)) (fB co.out ae.out) hb); have n2_ := Aside0.mk (blk_below (g := ah) (o := .cells #[.int .i64 ((rd_T51 aa ab).f0), .int .i64 ((rd_T51 aa ab).f1), .int .u32 ((rd_T51 aa ab).f2), .string ((rd_T51 aa ab).f3), .int .u64 ((rd_T51 aa ab).f4), .int .u64 ((rd_T51 aa ab).f5)] 51 (0, 0)) (by (with_reducible repeat (first | refine qN ?_ _ | refine qD ?_ | refine qA ?_ _)); refine blk_put (cs := #[.int .i64 ((rd_T51 aa ab).f0), .int .i64 ((rd_T51 aa ab).f1), .int .u32 ((rd_T51 aa ab).f2), .string ((rd_T51 aa ab).f3), .int .u64 ((rd_T51 aa ab).f4), .int .u64 0]) ?_ 5 _ rfl; (with_reducible repeat (first | refine qN ?_ _ | refine qD ?_ | refine qA ?_ _)); refine blk_put (cs := #[.int .i64 ((rd_T51 aa ab).f0), .int .i64 ((rd_T51 aa ab).f1), .int .u32 ((rd_T51 aa ab).f2), .string ((rd_T51 aa ab).f3), .int .u64 0, .int .u64 0]) ?_ 4 _ rfl; (with_reducible repeat (first | refine qN ?_ _ | refine qD ?_ | refine qA ?_ _)); refine blk_put (cs := #[.int .i64 ((rd_T51 aa ab).f0), .int .i64 ((rd_T51 aa ab).f1), .int .u32 ((rd_T51 aa ab).f2), .string (⟨#[]⟩ : ByteArray), .int .u64 0, .int .u64 0]) ?_ 3 _ rfl; (with_reducible repeat (first | refine qN ?_ _ | refine qD ?_ | refine qA ?_ _)); refine blk_put (cs := #[.int .i64 ((rd_T51 aa ab).f0), .int .i64 ((rd_T51 aa ab).f1), .int .u32 0, .string (⟨#[]⟩ : ByteArray), .int .u64 0, .int .u64 0]) ?_ 2 _ rfl; (with_reducible repeat (first | refine qN ?_ _ | refine qD ?_ | refine qA ?_ _)); refine blk_put (cs := #[.int .i64 ((rd_T51 aa ab).f0), .int .i64 0, .int .u32 0, .string (⟨#[]⟩ : ByteArray), .int .u64 0, .int .u64 0]) ?_ 1 _ rfl; (with_reducible repeat (first | refine qN ?_ _ | refine qD ?_ | refine qA ?_ _)); refine blk_put (cs := #[.int .i64 0, .int .i64 0, .int .u32 0, .string (⟨#[]⟩ : ByteArray), .int .u64 0, .int .u64 0]) ?_ 0 _ rfl; (with_reducible repeat (first | refine qN ?_ _ | refine qD ?_ | refine qA ?_ _)); exact ad.out) hb); have n3_ := Aside0.mk (below_step (by repeat (first | (with_reducible first | exact HB.out | apply pA | apply pN | apply pD | refine pS ?_ aA.out | refine pS ?_ aB.out | refine pS ?_ aG.out) | exact HB.out)) hb); clear al; clear ae; clear ad; clear HB; have al := n0_; have ae := n1_; have ad := n2_; have HB := n3_; clear n0_ n1_ n2_ n3_; (try clear hb); (try clear hb2); (try clear hk); (try clear hi)) | ((with_reducible refine gate_dst (N := 10) rfl ?_); (try (refine gate_guard (by rfl) ?_; dsimp only)); refine box_event ?hg (N := 10) ?hd (cs := #[.int .u64 0, .int .u64 0, .int .i64 0]) (t := 24) ?hr ?_; (case hd => rfl); (case hg => rfl); (case hr => first | (go_simp; done) | (go_simp; rfl)); intro ai hg w40 hbox hb; have n0_ := Aside0.mk (blk_below (g := ao) (o := .cells #[.int .i64 am, .slice (some ap) aa.length aq, .slice ar ak.length au, .slice av an.length aw, .int .i64 ab, .int .i64 aN, .int .i64 aO, .int .u8 aK] 48 (0, 0)) (zB al.out) hb); have n1_ := Aside0.mk (blk_below (g := aj) (o := .cells #[.int .i64 am, .slice (some ap) aa.length aq, .slice ar ak.length au, .slice av an.length aw] 46 (0, 0)) (zB ae.out) hb); have n2_ := Aside0.mk (blk_below (g := ah) (o := .cells #[.int .i64 ((rd_T51 aa ab).f0), .int .i64 ((rd_T51 aa ab).f1), .int .u32 ((rd_T51 aa ab).f2), .string ((rd_T51 aa ab).f3), .int .u64 ((rd_T51 aa ab).f4), .int .u64 ((rd_T51 aa ab).f5)] 51 (0, 0)) (zB ad.out) hb); have n3_ := Aside0.mk (below_step (by repeat (first | (with_reducible first | exact HB.out | apply pA | apply pN | apply pD | refine pS ?_ aA.out | refine pS ?_ aB.out | refine pS ?_ aG.out) | exact HB.out)) hb); have n4_ := Aside0.mk (hbox); have n5_ := Aside0.mk ((by rw [hg]; exact (below_size (by repeat (first | (with_reducible first | exact HB.out | apply pA | apply pN | apply pD | refine pS ?_ aA.out | refine pS ?_ aB.out | refine pS ?_ aG.out) | exact HB.out))) : w.heap.size ≤ ai)); have n6_ := Aside0.mk ((by rw [hg]; exact (below_size (by repeat (first | (with_reducible first | exact HB.out | apply pA | apply pN | apply pD | refine pS ?_ aA.out | refine pS ?_ aB.out | refine pS ?_ aG.out) | exact HB.out))) : w.heap.size ≤ ai)); have n7_ := Aside0.mk ((by rw [hg]; exact Nat.ne_of_lt (blk_lt (g := ao) (o := .cells #[.int .i64 am, .slice (some ap) aa.length aq, .slice ar ak.length au, .slice av an.length aw, .int .i64 ab, .int .i64 aN, .int .i64 aO, .int .u8 aK] 48 (0, 0)) (zB al.out)) : ao ≠ ai)); have n8_ := Aside0.mk ((by rw [hg]; exact Nat.ne_of_gt (blk_lt (g := ao) (o := .cells #[.int .i64 am, .slice (some ap) aa.length aq, .slice ar ak.length au, .slice av an.length aw, .int .i64 ab, .int .i64 aN, .int .i64 aO, .int .u8 aK] 48 (0, 0)) (zB al.out)) : ai ≠ ao)); have n9_ := Aside0.mk ((by rw [hg]; exact Nat.ne_of_lt (blk_lt (g := aj) (o := .cells #[.int .i64 am, .slice (some ap) aa.length aq, .slice ar ak.length au, .slice av an.length aw] 46 (0, 0)) (zB ae.out)) : aj ≠ ai)); have n10_ := Aside0.mk ((by rw [hg]; exact Nat.ne_of_gt (blk_lt (g := aj) (o := .cells #[.int .i64 am, .slice (some ap) aa.length aq, .slice ar ak.length au, .slice av an.length aw] 46 (0, 0)) (zB ae.out)) : ai ≠ aj)); have n11_ := Aside0.mk ((by rw [hg]; exact Nat.ne_of_lt (blk_lt (g := ah) (o := .cells #[.int .i64 ((rd_T51 aa ab).f0), .int .i64 ((rd_T51 aa ab).f1), .int .u32 ((rd_T51 aa ab).f2), .string ((rd_T51 aa ab).f3), .int .u64 ((rd_T51 aa ab).f4), .int .u64 ((rd_T51 aa ab).f5)] 51 (0, 0)) (zB ad.out)) : ah ≠ ai)); have n12_ := Aside0.mk ((by rw [hg]; exact Nat.ne_of_gt (blk_lt (g := ah) (o := .cells #[.int .i64 ((rd_T51 aa ab).f0), .int .i64 ((rd_T51 aa ab).f1), .int .u32 ((rd_T51 aa ab).f2), .string ((rd_T51 aa ab).f3), .int .u64 ((rd_T51 aa ab).f4), .int .u64 ((rd_T51 aa ab).f5)] 51 (0, 0)) (zB ad.out)) : ai ≠ ah)); clear al; clear ae; clear ad; clear HB; have al := n0_; have ae := n1_; have ad := n2_; have HB := n3_; have af := n4_; have bh := n5_; have aL := n6_; have cx := n7_; have cC := n8_; have cp := n9_; have cy := n10_; have cz := n11_; have cD := n12_; clear n0_ n1_ n2_ n3_ n4_ n5_ n6_ n7_ n8_ n9_ n10_ n11_ n12_; clear hb hbox hg; have fh := cC.out; have fi := cx.out; have fj := cy.out; have fk := cp.out; have fl := cD.out; have fm := cz.out; obtain ⟨eS, eT, eU, eV, eW, eX⟩ := bk3 af.out))
      have n0_ : Aside0 ((((w40.setCell ⟨ai, 0, none⟩ (.int .u64 az)).setCell ⟨ai, 1, none⟩ (.int .u64 aD)).setCell ⟨ai, 2, none⟩ (.int .i64 aE)).heap[ao]? = some (.cells #[.int .i64 am, .slice (some ap) aa.length aq, .slice ar ak.length au, .slice av an.length aw, .int .i64 ab, .int .i64 aN, .int .i64 aO, .int .u8 aK] 48 (0, 0))) := ⟨fB cx.out al.out⟩
      have n1_ : Aside0 ((((w40.setCell ⟨ai, 0, none⟩ (.int .u64 az)).setCell ⟨ai, 1, none⟩ (.int .u64 aD)).setCell ⟨ai, 2, none⟩ (.int .i64 aE)).heap[aj]? = some (.cells #[.int .i64 am, .slice (some ap) aa.length aq, .slice ar ak.length au, .slice av an.length aw] 46 (0, 0))) := ⟨fB cp.out ae.out⟩
      have n2_ : Aside0 ((((w40.setCell ⟨ai, 0, none⟩ (.int .u64 az)).setCell ⟨ai, 1, none⟩ (.int .u64 aD)).setCell ⟨ai, 2, none⟩ (.int .i64 aE)).heap[ah]? = some (.cells #[.int .i64 ((rd_T51 aa ab).f0), .int .i64 ((rd_T51 aa ab).f1), .int .u32 ((rd_T51 aa ab).f2), .string ((rd_T51 aa ab).f3), .int .u64 ((rd_T51 aa ab).f4), .int .u64 ((rd_T51 aa ab).f5)] 51 (0, 0))) := ⟨fB cz.out ad.out⟩
      have n3_ : Aside0 ((((w40.setCell ⟨ai, 0, none⟩ (.int .u64 az)).setCell ⟨ai, 1, none⟩ (.int .u64 aD)).setCell ⟨ai, 2, none⟩ (.int .i64 aE)).heap[ai]? = some (.cells #[.int .u64 az, .int .u64 aD, .int .i64 aE] 24 (0, 0))) := ⟨by (with_reducible repeat (first | refine qN ?_ _ | refine qD ?_ | refine qA ?_ _)); refine blk_put (cs := #[.int .u64 az, .int .u64 aD, .int .i64 0]) ?_ 2 _ rfl; (with_reducible repeat (first | refine qN ?_ _ | refine qD ?_ | refine qA ?_ _)); refine blk_put (cs := #[.int .u64 az, .int .u64 0, .int .i64 0]) ?_ 1 _ rfl; (with_reducible repeat (first | refine qN ?_ _ | refine qD ?_ | refine qA ?_ _)); refine blk_put (cs := #[.int .u64 0, .int .u64 0, .int .i64 0]) ?_ 0 _ rfl; (with_reducible repeat (first | refine qN ?_ _ | refine qD ?_ | refine qA ?_ _)); exact af.out⟩
      have n4_ : Aside0 (Below w.heap.size w (((w40.setCell ⟨ai, 0, none⟩ (.int .u64 az)).setCell ⟨ai, 1, none⟩ (.int .u64 aD)).setCell ⟨ai, 2, none⟩ (.int .i64 aE))) := ⟨by repeat (first | (with_reducible first | exact HB.out | apply pA | apply pN | apply pD | refine pS ?_ aA.out | refine pS ?_ aB.out | refine pS ?_ aG.out | refine pS ?_ aL.out) | exact HB.out)⟩
      (try clear al)
      (try clear ae)
      (try clear ad)
      (try clear af)
      (try clear HB)
      generalize (((w40.setCell ⟨ai, 0, none⟩ (.int .u64 az)).setCell ⟨ai, 1, none⟩ (.int .u64 aD)).setCell ⟨ai, 2, none⟩ (.int .i64 aE)) = w45 at n0_ n1_ n2_ n3_ n4_ ⊢
      have al := n0_
      have ae := n1_
      have ad := n2_
      have af := n3_
      have HB := n4_
      clear n0_ n1_ n2_ n3_ n4_
      have n0_ := Aside0.mk (qD al.out)
      have n1_ := Aside0.mk (qD ae.out)
      have n2_ := Aside0.mk (qD ad.out)
      have n3_ := Aside0.mk (qD af.out)
      have n4_ := Aside0.mk (pD HB.out)
      clear al
      clear ae
      clear ad
      clear af
      clear HB
      have al := n0_
      have ae := n1_
      have ad := n2_
      have af := n3_
      have HB := n4_
      clear n0_ n1_ n2_ n3_ n4_
      refine start_ (n := 12) (S := fun w' => w'.cell? ⟨aj, 0, none⟩ = some (.int .i64 am) ∧ w'.cell? ⟨aj, 1, none⟩ = some (.slice (some ap) aa.length aq) ∧ w'.cell? ⟨aj, 2, none⟩ = some (.slice ar ak.length au) ∧ w'.cell? ⟨aj, 3, none⟩ = some (.slice av an.length aw) ∧ w'.cell? ⟨ai, 0, none⟩ = some (.int .u64 az) ∧ w'.cell? ⟨ai, 1, none⟩ = some (.int .u64 aD) ∧ w'.cell? ⟨ai, 2, none⟩ = some (.int .i64 aE) ∧ w'.cell? ⟨ah, 0, none⟩ = some (.int .i64 ((rd_T51 aa ab).f0)) ∧ w'.cell? ⟨ah, 1, none⟩ = some (.int .i64 ((rd_T51 aa ab).f1)) ∧ w'.cell? ⟨ah, 2, none⟩ = some (.int .u32 ((rd_T51 aa ab).f2)) ∧ w'.cell? ⟨ah, 3, none⟩ = some (.string ((rd_T51 aa ab).f3)) ∧ w'.cell? ⟨ah, 4, none⟩ = some (.int .u64 ((rd_T51 aa ab).f4)) ∧ w'.cell? ⟨ah, 5, none⟩ = some (.int .u64 ((rd_T51 aa ab).f5))) (ds := []) #[oO, oO, oO, oO, oO, oO, oO, oO, oO, oO, oO, oO] (by kernel_rfl) rfl rfl ⟨(blk_cell ae.out 0).trans rfl, (blk_cell ae.out 1).trans rfl, (blk_cell ae.out 2).trans rfl, (blk_cell ae.out 3).trans rfl, (blk_cell af.out 0).trans rfl, (blk_cell af.out 1).trans rfl, (blk_cell af.out 2).trans rfl, (blk_cell ad.out 0).trans rfl, (blk_cell ad.out 1).trans rfl, (blk_cell ad.out 2).trans rfl, (blk_cell ad.out 3).trans rfl, (blk_cell ad.out 4).trans rfl, (blk_cell ad.out 5).trans rfl⟩ (fun hHeld => ?_); refine with_tabW portreevelaw17_MeterOps.tab11 portreevelaw17_MeterOps.bits11 (fun HT_ HW_ => ?_)
      generalize w45.drew = w46 at al ae ad af HB hHeld ⊢
      refine pure_ (i := 2) (N := some 57) (v := ?_) (a' := ?_) #[oO, oO, oI, oO, oO, oO, oO, oO, oO, oO, oO, oO] rfl rfl (any_of HT_.out (by kernel_rfl)) (fun _ _ _ h => h) (Or.inl ⟨by rfl, ?_⟩) ?_ ?_
      rotate_left
      ·intro w'
       go_simp
       with_reducible rfl
      rotate_left
      ·simp only [Act.put, sT, s0, s1, i64_w, i32_w]
       rfl
      refine take_ (i := 0) (N := some 55) (v := ?_) (a' := ?_) #[oI, oO, oI, oO, oO, oO, oO, oO, oO, oO, oO, oO] rfl rfl (take_ofW HT_.out HW_.out (by kernel_rfl)) (fun _ _ _ h => h) (Or.inl ⟨by rfl, ?_⟩) hHeld ?_ ?_
      rotate_left
      ·rintro w' ⟨s0, s1, s2, s3, s4, s5, s6, s7, s8, s9, s10, s11, s12⟩
       go_simp
       with_reducible rfl
      rotate_left
      ·simp only [Act.put, sT, s0, s1, i64_w, i32_w]
       rfl
      refine take_ (i := 1) (N := some 56) (v := ?_) (a' := ?_) #[oI, oI, oI, oO, oO, oO, oO, oO, oO, oO, oO, oO] rfl rfl (take_ofW HT_.out HW_.out (by kernel_rfl)) (fun _ _ _ h => h) (Or.inl ⟨by rfl, ?_⟩) hHeld ?_ ?_
      rotate_left
      ·rintro w' ⟨s0, s1, s2, s3, s4, s5, s6, s7, s8, s9, s10, s11, s12⟩
       go_simp
       with_reducible rfl
      rotate_left
      ·simp only [Act.put, sT, s0, s1, i64_w, i32_w]
       rfl
      refine take_ (i := 3) (N := some 58) (v := ?_) (a' := ?_) #[oI, oI, oI, oI, oO, oO, oO, oO, oO, oO, oO, oO] rfl rfl (take_ofW HT_.out HW_.out (by kernel_rfl)) (fun _ _ _ h => h) (Or.inl ⟨by rfl, ?_⟩) hHeld ?_ ?_
      rotate_left
      ·rintro w' ⟨s0, s1, s2, s3, s4, s5, s6, s7, s8, s9, s10, s11, s12⟩
       go_simp
       with_reducible rfl
      rotate_left
      ·simp only [Act.put, sT, s0, s1, i64_w, i32_w]
       rfl
      refine join_ (σ := Value × Value × Value × Nat) 2 #[oI, oI, oI, oI, oI, oI, oI, oI, oI, oI, oO, oO] (fun s_ => [(59, .agg #[.int .i64 b6, .int .i64 b7, .int .i64 b8, .int .u32 b9, .string ca, .int .u64 cb, .int .u64 cc, .int .i64 cd, .int .i64 ce]), (60, .tuple #[.agg #[.int .i64 bb, s_.1, s_.2.1, s_.2.2.1], .int .i64 bF]), (11, .pointer (some ⟨s_.2.2.2, 0, none⟩)), (54, .tuple #[.agg #[.int .i64 bb, s_.1, s_.2.1, s_.2.2.1], .int .i64 bF]), (61, .agg #[.int .i64 bb, s_.1, s_.2.1, s_.2.2.1]), (62, .int .i64 bF)]) (fun s_ w' => (w'.cell? ⟨aj, 0, none⟩ = some (.int .i64 am) ∧ w'.cell? ⟨aj, 1, none⟩ = some (.slice (some ap) aa.length aq) ∧ w'.cell? ⟨aj, 2, none⟩ = some (.slice ar ak.length au) ∧ w'.cell? ⟨aj, 3, none⟩ = some (.slice av an.length aw) ∧ w'.cell? ⟨ai, 0, none⟩ = some (.int .u64 az) ∧ w'.cell? ⟨ai, 1, none⟩ = some (.int .u64 aD) ∧ w'.cell? ⟨ai, 2, none⟩ = some (.int .i64 aE) ∧ w'.cell? ⟨ah, 0, none⟩ = some (.int .i64 ((rd_T51 aa ab).f0)) ∧ w'.cell? ⟨ah, 1, none⟩ = some (.int .i64 ((rd_T51 aa ab).f1)) ∧ w'.cell? ⟨ah, 2, none⟩ = some (.int .u32 ((rd_T51 aa ab).f2)) ∧ w'.cell? ⟨ah, 3, none⟩ = some (.string ((rd_T51 aa ab).f3)) ∧ w'.cell? ⟨ah, 4, none⟩ = some (.int .u64 ((rd_T51 aa ab).f4)) ∧ w'.cell? ⟨ah, 5, none⟩ = some (.int .u64 ((rd_T51 aa ab).f5))) ∧ (Kd.V k51 51 w' w.heap.size (fun k_ => k_ ≠ ao ∧ k_ ≠ aj ∧ k_ ≠ ah ∧ k_ ≠ ai ∧ k_ ≠ s_.2.2.2) s_.1 aF) ∧ (Kd.V k56 56 w' w.heap.size (fun k_ => k_ ≠ ao ∧ k_ ≠ aj ∧ k_ ≠ ah ∧ k_ ≠ ai ∧ k_ ≠ s_.2.2.2) s_.2.1 aS) ∧ (Kd.V k68 68 w' w.heap.size (fun k_ => k_ ≠ ao ∧ k_ ≠ aj ∧ k_ ≠ ah ∧ k_ ≠ ai ∧ k_ ≠ s_.2.2.2) s_.2.2.1 aT) ∧ (w'.heap[ao]? = some (.cells #[.int .i64 am, .slice (some ap) aa.length aq, .slice ar ak.length au, .slice av an.length aw, .int .i64 ab, .int .i64 aN, .int .i64 aO, .int .u8 aK] 48 (0, 0))) ∧ (w'.heap[aj]? = some (.cells #[.int .i64 am, .slice (some ap) aa.length aq, .slice ar ak.length au, .slice av an.length aw] 46 (0, 0))) ∧ (w'.heap[ah]? = some (.cells #[.int .i64 ((rd_T51 aa ab).f0), .int .i64 ((rd_T51 aa ab).f1), .int .u32 ((rd_T51 aa ab).f2), .string ((rd_T51 aa ab).f3), .int .u64 ((rd_T51 aa ab).f4), .int .u64 ((rd_T51 aa ab).f5)] 51 (0, 0))) ∧ (w'.heap[ai]? = some (.cells #[.int .u64 az, .int .u64 aD, .int .i64 aE] 24 (0, 0))) ∧ (w'.heap[s_.2.2.2]? = some (.cells #[.int .i64 0, .slice none 0 0, .slice none 0 0, .slice none 0 0] 46 (0, 0))) ∧ (w.heap.size ≤ s_.2.2.2) ∧ (w.heap.size ≤ s_.2.2.2) ∧ (ao ≠ s_.2.2.2) ∧ (s_.2.2.2 ≠ ao) ∧ (aj ≠ s_.2.2.2) ∧ (s_.2.2.2 ≠ aj) ∧ (ah ≠ s_.2.2.2) ∧ (s_.2.2.2 ≠ ah) ∧ (ai ≠ s_.2.2.2) ∧ (s_.2.2.2 ≠ ai) ∧ (Below w.heap.size w w')) ?_ ?_
      rotate_left
      ·intro hCont
       refine two_ (i := 4) (j := 9) (Ni := some 59) (Nj := some 11) #[oI, oI, oI, oI, oI, oO, oO, oO, oO, oO, oO, oO] #[oI, oI, oI, oI, oO, oO, oO, oO, oO, oI, oO, oO] rfl rfl rfl rfl (two_of HT_.out (by kernel_rfl)) (by decide) (by decide) (fun K hK => ?_) (fun K hK => ?_)
       ·skip
        refine goes_ Try.func18 (by kernel_rfl) rfl #[.agg #[.int .u64 az, .int .u64 aD, .int .i64 aE], .int .i64 ((rd_T51 aa ab).f0)] (by rfl) rfl rfl (by (try simp only [List.map_toArray, List.map_cons, List.map_nil]); first | done | rfl | (simp only [List.length_drop, List.length_take]; rfl)) ?_
        with_reducible refine (meter_Note.calls az aD aE ((rd_T51 aa ab).f0) b6 b7 b8 b9 ca cb cc cd ce _ eo.out).mono ?_
        rintro e w47 ⟨rfl, hb⟩
        refine ⟨_, rfl, ?_⟩
        have n0_ := Aside0.mk (blk_below (g := ao) (o := .cells #[.int .i64 am, .slice (some ap) aa.length aq, .slice ar ak.length au, .slice av an.length aw, .int .i64 ab, .int .i64 aN, .int .i64 aO, .int .u8 aK] 48 (0, 0)) (zB al.out) hb)
        have n1_ := Aside0.mk (blk_below (g := aj) (o := .cells #[.int .i64 am, .slice (some ap) aa.length aq, .slice ar ak.length au, .slice av an.length aw] 46 (0, 0)) (zB ae.out) hb)
        have n2_ := Aside0.mk (blk_below (g := ah) (o := .cells #[.int .i64 ((rd_T51 aa ab).f0), .int .i64 ((rd_T51 aa ab).f1), .int .u32 ((rd_T51 aa ab).f2), .string ((rd_T51 aa ab).f3), .int .u64 ((rd_T51 aa ab).f4), .int .u64 ((rd_T51 aa ab).f5)] 51 (0, 0)) (zB ad.out) hb)
        have n3_ := Aside0.mk (blk_below (g := ai) (o := .cells #[.int .u64 az, .int .u64 aD, .int .i64 aE] 24 (0, 0)) (zB af.out) hb)
        have n4_ := Aside0.mk (below_step (by repeat (first | (with_reducible first | exact HB.out | apply pA | apply pN | apply pD | refine pS ?_ aA.out | refine pS ?_ aB.out | refine pS ?_ aG.out | refine pS ?_ aL.out) | exact HB.out)) hb)
        clear al
        clear ae
        clear ad
        clear af
        clear HB
        have al := n0_
        have ae := n1_
        have ad := n2_
        have af := n3_
        have HB := n4_
        clear n0_ n1_ n2_ n3_ n4_
        (try clear hb)
        (try clear hb2)
        (try clear hk)
        (try clear hi)
        refine hK.out _ _ ⟨(blk_cell ae.out 0).trans rfl, (blk_cell ae.out 1).trans rfl, (blk_cell ae.out 2).trans rfl, (blk_cell ae.out 3).trans rfl, (blk_cell af.out 0).trans rfl, (blk_cell af.out 1).trans rfl, (blk_cell af.out 2).trans rfl, (blk_cell ad.out 0).trans rfl, (blk_cell ad.out 1).trans rfl, (blk_cell ad.out 2).trans rfl, (blk_cell ad.out 3).trans rfl, (blk_cell ad.out 4).trans rfl, (blk_cell ad.out 5).trans rfl⟩ (fun hHeld => ?_)
        clear hK K
        refine norm_ (a' := ?_) ?_ ?_
        rotate_left
        ·show Act.put _ (some 59) _ = _
         simp only [Act.put, sT, s0, s1, i64_w, i32_w]
         rfl
        refine two_ (i := 5) (j := 9) (Ni := some 60) (Nj := some 11) #[oI, oI, oI, oI, oI, oI, oO, oO, oO, oO, oO, oO] #[oI, oI, oI, oI, oI, oO, oO, oO, oO, oI, oO, oO] rfl rfl rfl rfl (two_of HT_.out (by kernel_rfl)) (by decide) (by decide) (fun K hK => ?_) (fun K hK => ?_)
        ·skip
         refine goes_ Try.func23 (by kernel_rfl) rfl #[.agg #[.int .i64 am, .slice (some ap) aa.length aq, .slice ar ak.length au, .slice av an.length aw], .agg #[.int .i64 b6, .int .i64 b7, .int .i64 b8, .int .u32 b9, .string ca, .int .u64 cb, .int .u64 cc, .int .i64 cd, .int .i64 ce]] (by rfl) rfl rfl (by (try simp only [List.map_toArray, List.map_cons, List.map_nil]); first | done | rfl | (simp only [List.length_drop, List.length_take]; rfl)) ?_
         with_reducible refine (portreeveref04_Apply.calls bu am (fun k_ => k_ < w.heap.size) _ _ aa (fun k_ => k_ < w.heap.size) _ _ ak (fun k_ => k_ < w.heap.size) _ _ an b6 b7 b8 b9 ca cb cc cd ce bb aF aS aT bF _ ?side1 ?side2 ?side3 d3.out).mono ?_
         (case side1 => exact Kd.V_mk HC0_1.out (Kd.F_below (Kd.C_F k51_heap bX.out) (by repeat (first | (with_reducible first | exact HB.out | apply pA | apply pN | apply pD | refine pS ?_ aA.out | refine pS ?_ aB.out | refine pS ?_ aG.out | refine pS ?_ aL.out) | exact HB.out))))
         (case side2 => exact Kd.V_mk HC0_2.out (Kd.F_below (Kd.C_F k56_heap bZ.out) (by repeat (first | (with_reducible first | exact HB.out | apply pA | apply pN | apply pD | refine pS ?_ aA.out | refine pS ?_ aB.out | refine pS ?_ aG.out | refine pS ?_ aL.out) | exact HB.out))))
         (case side3 => exact Kd.V_mk HC0_3.out (Kd.F_below (Kd.C_F k68_heap b0.out) (by repeat (first | (with_reducible first | exact HB.out | apply pA | apply pN | apply pD | refine pS ?_ aA.out | refine pS ?_ aB.out | refine pS ?_ aG.out | refine pS ?_ aL.out) | exact HB.out))))
         rintro e w48 ⟨v448, v451, v454, rfl, ho0, ho1, ho2, hb⟩
         refine ⟨_, rfl, ?_⟩
         have n0_ := Aside0.mk (Kd.V_lower (Kd.V_mono (ok' := fun k_ => k_ ≠ ao ∧ k_ ≠ aj ∧ k_ ≠ ah ∧ k_ ≠ ai) ho0 (fun k_ hk_ => ⟨Or.elim hk_ (fun hs_ => Or.elim hs_ (fun hs_ => fun e_ => Nat.not_le.2 hs_ (by rw [e_]; exact be.out)) (fun hs_ => Or.elim hs_ (fun hs_ => fun e_ => Nat.not_le.2 hs_ (by rw [e_]; exact be.out)) (fun hs_ => fun e_ => Nat.not_le.2 hs_ (by rw [e_]; exact be.out)))) (fun hn_ => (Kd.freshB (g := ao) (o := .cells #[.int .i64 am, .slice (some ap) aa.length aq, .slice ar ak.length au, .slice av an.length aw, .int .i64 ab, .int .i64 aN, .int .i64 aO, .int .u8 aK] 48 (0, 0)) (zB al.out) k_ hn_)), Or.elim hk_ (fun hs_ => Or.elim hs_ (fun hs_ => fun e_ => Nat.not_le.2 hs_ (by rw [e_]; exact bf.out)) (fun hs_ => Or.elim hs_ (fun hs_ => fun e_ => Nat.not_le.2 hs_ (by rw [e_]; exact bf.out)) (fun hs_ => fun e_ => Nat.not_le.2 hs_ (by rw [e_]; exact bf.out)))) (fun hn_ => (Kd.freshB (g := aj) (o := .cells #[.int .i64 am, .slice (some ap) aa.length aq, .slice ar ak.length au, .slice av an.length aw] 46 (0, 0)) (zB ae.out) k_ hn_)), Or.elim hk_ (fun hs_ => Or.elim hs_ (fun hs_ => fun e_ => Nat.not_le.2 hs_ (by rw [e_]; exact bg.out)) (fun hs_ => Or.elim hs_ (fun hs_ => fun e_ => Nat.not_le.2 hs_ (by rw [e_]; exact bg.out)) (fun hs_ => fun e_ => Nat.not_le.2 hs_ (by rw [e_]; exact bg.out)))) (fun hn_ => (Kd.freshB (g := ah) (o := .cells #[.int .i64 ((rd_T51 aa ab).f0), .int .i64 ((rd_T51 aa ab).f1), .int .u32 ((rd_T51 aa ab).f2), .string ((rd_T51 aa ab).f3), .int .u64 ((rd_T51 aa ab).f4), .int .u64 ((rd_T51 aa ab).f5)] 51 (0, 0)) (zB ad.out) k_ hn_)), Or.elim hk_ (fun hs_ => Or.elim hs_ (fun hs_ => fun e_ => Nat.not_le.2 hs_ (by rw [e_]; exact bh.out)) (fun hs_ => Or.elim hs_ (fun hs_ => fun e_ => Nat.not_le.2 hs_ (by rw [e_]; exact bh.out)) (fun hs_ => fun e_ => Nat.not_le.2 hs_ (by rw [e_]; exact bh.out)))) (fun hn_ => (Kd.freshB (g := ai) (o := .cells #[.int .u64 az, .int .u64 aD, .int .i64 aE] 24 (0, 0)) (zB af.out) k_ hn_))⟩)) (below_size (by repeat (first | (with_reducible first | exact HB.out | apply pA | apply pN | apply pD | refine pS ?_ aA.out | refine pS ?_ aB.out | refine pS ?_ aG.out | refine pS ?_ aL.out) | exact HB.out))))
         have n1_ := Aside0.mk (Kd.V_lower (Kd.V_mono (ok' := fun k_ => k_ ≠ ao ∧ k_ ≠ aj ∧ k_ ≠ ah ∧ k_ ≠ ai) ho1 (fun k_ hk_ => ⟨Or.elim hk_ (fun hs_ => Or.elim hs_ (fun hs_ => fun e_ => Nat.not_le.2 hs_ (by rw [e_]; exact be.out)) (fun hs_ => Or.elim hs_ (fun hs_ => fun e_ => Nat.not_le.2 hs_ (by rw [e_]; exact be.out)) (fun hs_ => fun e_ => Nat.not_le.2 hs_ (by rw [e_]; exact be.out)))) (fun hn_ => (Kd.freshB (g := ao) (o := .cells #[.int .i64 am, .slice (some ap) aa.length aq, .slice ar ak.length au, .slice av an.length aw, .int .i64 ab, .int .i64 aN, .int .i64 aO, .int .u8 aK] 48 (0, 0)) (zB al.out) k_ hn_)), Or.elim hk_ (fun hs_ => Or.elim hs_ (fun hs_ => fun e_ => Nat.not_le.2 hs_ (by rw [e_]; exact bf.out)) (fun hs_ => Or.elim hs_ (fun hs_ => fun e_ => Nat.not_le.2 hs_ (by rw [e_]; exact bf.out)) (fun hs_ => fun e_ => Nat.not_le.2 hs_ (by rw [e_]; exact bf.out)))) (fun hn_ => (Kd.freshB (g := aj) (o := .cells #[.int .i64 am, .slice (some ap) aa.length aq, .slice ar ak.length au, .slice av an.length aw] 46 (0, 0)) (zB ae.out) k_ hn_)), Or.elim hk_ (fun hs_ => Or.elim hs_ (fun hs_ => fun e_ => Nat.not_le.2 hs_ (by rw [e_]; exact bg.out)) (fun hs_ => Or.elim hs_ (fun hs_ => fun e_ => Nat.not_le.2 hs_ (by rw [e_]; exact bg.out)) (fun hs_ => fun e_ => Nat.not_le.2 hs_ (by rw [e_]; exact bg.out)))) (fun hn_ => (Kd.freshB (g := ah) (o := .cells #[.int .i64 ((rd_T51 aa ab).f0), .int .i64 ((rd_T51 aa ab).f1), .int .u32 ((rd_T51 aa ab).f2), .string ((rd_T51 aa ab).f3), .int .u64 ((rd_T51 aa ab).f4), .int .u64 ((rd_T51 aa ab).f5)] 51 (0, 0)) (zB ad.out) k_ hn_)), Or.elim hk_ (fun hs_ => Or.elim hs_ (fun hs_ => fun e_ => Nat.not_le.2 hs_ (by rw [e_]; exact bh.out)) (fun hs_ => Or.elim hs_ (fun hs_ => fun e_ => Nat.not_le.2 hs_ (by rw [e_]; exact bh.out)) (fun hs_ => fun e_ => Nat.not_le.2 hs_ (by rw [e_]; exact bh.out)))) (fun hn_ => (Kd.freshB (g := ai) (o := .cells #[.int .u64 az, .int .u64 aD, .int .i64 aE] 24 (0, 0)) (zB af.out) k_ hn_))⟩)) (below_size (by repeat (first | (with_reducible first | exact HB.out | apply pA | apply pN | apply pD | refine pS ?_ aA.out | refine pS ?_ aB.out | refine pS ?_ aG.out | refine pS ?_ aL.out) | exact HB.out))))
         have n2_ := Aside0.mk (Kd.V_lower (Kd.V_mono (ok' := fun k_ => k_ ≠ ao ∧ k_ ≠ aj ∧ k_ ≠ ah ∧ k_ ≠ ai) ho2 (fun k_ hk_ => ⟨Or.elim hk_ (fun hs_ => Or.elim hs_ (fun hs_ => fun e_ => Nat.not_le.2 hs_ (by rw [e_]; exact be.out)) (fun hs_ => Or.elim hs_ (fun hs_ => fun e_ => Nat.not_le.2 hs_ (by rw [e_]; exact be.out)) (fun hs_ => fun e_ => Nat.not_le.2 hs_ (by rw [e_]; exact be.out)))) (fun hn_ => (Kd.freshB (g := ao) (o := .cells #[.int .i64 am, .slice (some ap) aa.length aq, .slice ar ak.length au, .slice av an.length aw, .int .i64 ab, .int .i64 aN, .int .i64 aO, .int .u8 aK] 48 (0, 0)) (zB al.out) k_ hn_)), Or.elim hk_ (fun hs_ => Or.elim hs_ (fun hs_ => fun e_ => Nat.not_le.2 hs_ (by rw [e_]; exact bf.out)) (fun hs_ => Or.elim hs_ (fun hs_ => fun e_ => Nat.not_le.2 hs_ (by rw [e_]; exact bf.out)) (fun hs_ => fun e_ => Nat.not_le.2 hs_ (by rw [e_]; exact bf.out)))) (fun hn_ => (Kd.freshB (g := aj) (o := .cells #[.int .i64 am, .slice (some ap) aa.length aq, .slice ar ak.length au, .slice av an.length aw] 46 (0, 0)) (zB ae.out) k_ hn_)), Or.elim hk_ (fun hs_ => Or.elim hs_ (fun hs_ => fun e_ => Nat.not_le.2 hs_ (by rw [e_]; exact bg.out)) (fun hs_ => Or.elim hs_ (fun hs_ => fun e_ => Nat.not_le.2 hs_ (by rw [e_]; exact bg.out)) (fun hs_ => fun e_ => Nat.not_le.2 hs_ (by rw [e_]; exact bg.out)))) (fun hn_ => (Kd.freshB (g := ah) (o := .cells #[.int .i64 ((rd_T51 aa ab).f0), .int .i64 ((rd_T51 aa ab).f1), .int .u32 ((rd_T51 aa ab).f2), .string ((rd_T51 aa ab).f3), .int .u64 ((rd_T51 aa ab).f4), .int .u64 ((rd_T51 aa ab).f5)] 51 (0, 0)) (zB ad.out) k_ hn_)), Or.elim hk_ (fun hs_ => Or.elim hs_ (fun hs_ => fun e_ => Nat.not_le.2 hs_ (by rw [e_]; exact bh.out)) (fun hs_ => Or.elim hs_ (fun hs_ => fun e_ => Nat.not_le.2 hs_ (by rw [e_]; exact bh.out)) (fun hs_ => fun e_ => Nat.not_le.2 hs_ (by rw [e_]; exact bh.out)))) (fun hn_ => (Kd.freshB (g := ai) (o := .cells #[.int .u64 az, .int .u64 aD, .int .i64 aE] 24 (0, 0)) (zB af.out) k_ hn_))⟩)) (below_size (by repeat (first | (with_reducible first | exact HB.out | apply pA | apply pN | apply pD | refine pS ?_ aA.out | refine pS ?_ aB.out | refine pS ?_ aG.out | refine pS ?_ aL.out) | exact HB.out))))
         have n3_ := Aside0.mk (blk_below (g := ao) (o := .cells #[.int .i64 am, .slice (some ap) aa.length aq, .slice ar ak.length au, .slice av an.length aw, .int .i64 ab, .int .i64 aN, .int .i64 aO, .int .u8 aK] 48 (0, 0)) (zB al.out) hb)
         have n4_ := Aside0.mk (blk_below (g := aj) (o := .cells #[.int .i64 am, .slice (some ap) aa.length aq, .slice ar ak.length au, .slice av an.length aw] 46 (0, 0)) (zB ae.out) hb)
         have n5_ := Aside0.mk (blk_below (g := ah) (o := .cells #[.int .i64 ((rd_T51 aa ab).f0), .int .i64 ((rd_T51 aa ab).f1), .int .u32 ((rd_T51 aa ab).f2), .string ((rd_T51 aa ab).f3), .int .u64 ((rd_T51 aa ab).f4), .int .u64 ((rd_T51 aa ab).f5)] 51 (0, 0)) (zB ad.out) hb)
         have n6_ := Aside0.mk (blk_below (g := ai) (o := .cells #[.int .u64 az, .int .u64 aD, .int .i64 aE] 24 (0, 0)) (zB af.out) hb)
         have n7_ := Aside0.mk (below_step (by repeat (first | (with_reducible first | exact HB.out | apply pA | apply pN | apply pD | refine pS ?_ aA.out | refine pS ?_ aB.out | refine pS ?_ aG.out | refine pS ?_ aL.out) | exact HB.out)) hb)
         clear al
         clear ae
         clear ad
         clear af
         clear HB
         have aH := n0_
         have aI := n1_
         have aJ := n2_
         have al := n3_
         have ae := n4_
         have ad := n5_
         have af := n6_
         have HB := n7_
         clear n0_ n1_ n2_ n3_ n4_ n5_ n6_ n7_
         (try clear hb)
         (try clear hb2)
         (try clear hk)
         (try clear hi)
         (try clear ho0)
         (try clear ho1)
         (try clear ho2)
         refine hK.out _ _ ⟨(blk_cell ae.out 0).trans rfl, (blk_cell ae.out 1).trans rfl, (blk_cell ae.out 2).trans rfl, (blk_cell ae.out 3).trans rfl, (blk_cell af.out 0).trans rfl, (blk_cell af.out 1).trans rfl, (blk_cell af.out 2).trans rfl, (blk_cell ad.out 0).trans rfl, (blk_cell ad.out 1).trans rfl, (blk_cell ad.out 2).trans rfl, (blk_cell ad.out 3).trans rfl, (blk_cell ad.out 4).trans rfl, (blk_cell ad.out 5).trans rfl⟩ (fun hHeld => ?_)
         clear hK K
         refine norm_ (a' := ?_) ?_ ?_
         rotate_left
         ·show Act.put _ (some 60) _ = _
          simp only [Act.put, sT, s0, s1, i64_w, i32_w]
          rfl
         refine pure_ (i := 6) (N := some 54) (v := ?_) (a' := ?_) #[oI, oI, oI, oI, oI, oI, oI, oO, oO, oO, oO, oO] rfl rfl (any_of HT_.out (by kernel_rfl)) (fun _ _ _ h => h) (Or.inl ⟨by rfl, ?_⟩) ?_ ?_
         rotate_left
         ·intro w'
          go_simp
          with_reducible rfl
         rotate_left
         ·simp only [Act.put, sT, s0, s1, i64_w, i32_w]
          rfl
         refine pure_ (i := 7) (N := some 61) (v := ?_) (a' := ?_) #[oI, oI, oI, oI, oI, oI, oI, oI, oO, oO, oO, oO] rfl rfl (any_of HT_.out (by kernel_rfl)) (fun _ _ _ h => h) (Or.inl ⟨by rfl, ?_⟩) ?_ ?_
         rotate_left
         ·intro w'
          go_simp
          with_reducible rfl
         rotate_left
         ·simp only [Act.put, sT, s0, s1, i64_w, i32_w]
          rfl
         refine pure_ (i := 8) (N := some 62) (v := ?_) (a' := ?_) #[oI, oI, oI, oI, oI, oI, oI, oI, oI, oO, oO, oO] rfl rfl (any_of HT_.out (by kernel_rfl)) (fun _ _ _ h => h) (Or.inl ⟨by rfl, ?_⟩) ?_ ?_
         rotate_left
         ·intro w'
          go_simp
          with_reducible rfl
         rotate_left
         ·simp only [Act.put, sT, s0, s1, i64_w, i32_w]
          rfl
         refine one_ (i := 9) (N := some 11) #[oI, oI, oI, oI, oI, oI, oI, oI, oI, oI, oO, oO] rfl rfl (one_of HT_.out (by kernel_rfl)) (by decide) (fun K hK => ?_)
         refine box_step ?hg (N := 11) ?hd (cs := #[.int .i64 0, .slice none 0 0, .slice none 0 0, .slice none 0 0]) (t := 46) ?hr ?_; (case hd => rfl); (case hg => rfl); (case hr => first | (go_simp; done) | (go_simp; rfl))
         intro ag hg w49 hbox hb
         have n0_ := Aside0.mk (Kd.V_below (Kd.V_elderB (zV aH.out) ag (Nat.le_of_eq hg.symm)) hb)
         have n1_ := Aside0.mk (Kd.V_below (Kd.V_elderB (zV aI.out) ag (Nat.le_of_eq hg.symm)) hb)
         have n2_ := Aside0.mk (Kd.V_below (Kd.V_elderB (zV aJ.out) ag (Nat.le_of_eq hg.symm)) hb)
         have n3_ := Aside0.mk (blk_below (g := ao) (o := .cells #[.int .i64 am, .slice (some ap) aa.length aq, .slice ar ak.length au, .slice av an.length aw, .int .i64 ab, .int .i64 aN, .int .i64 aO, .int .u8 aK] 48 (0, 0)) (zB al.out) hb)
         have n4_ := Aside0.mk (blk_below (g := aj) (o := .cells #[.int .i64 am, .slice (some ap) aa.length aq, .slice ar ak.length au, .slice av an.length aw] 46 (0, 0)) (zB ae.out) hb)
         have n5_ := Aside0.mk (blk_below (g := ah) (o := .cells #[.int .i64 ((rd_T51 aa ab).f0), .int .i64 ((rd_T51 aa ab).f1), .int .u32 ((rd_T51 aa ab).f2), .string ((rd_T51 aa ab).f3), .int .u64 ((rd_T51 aa ab).f4), .int .u64 ((rd_T51 aa ab).f5)] 51 (0, 0)) (zB ad.out) hb)
         have n6_ := Aside0.mk (blk_below (g := ai) (o := .cells #[.int .u64 az, .int .u64 aD, .int .i64 aE] 24 (0, 0)) (zB af.out) hb)
         have n7_ := Aside0.mk (below_step (by repeat (first | (with_reducible first | exact HB.out | apply pA | apply pN | apply pD | refine pS ?_ aA.out | refine pS ?_ aB.out | refine pS ?_ aG.out | refine pS ?_ aL.out) | exact HB.out)) hb)
         have n8_ := Aside0.mk (hbox)
         have n9_ := Aside0.mk ((by rw [hg]; exact (below_size (by repeat (first | (with_reducible first | exact HB.out | apply pA | apply pN | apply pD | refine pS ?_ aA.out | refine pS ?_ aB.out | refine pS ?_ aG.out | refine pS ?_ aL.out) | exact HB.out))) : w.heap.size ≤ ag))
         have n10_ := Aside0.mk ((by rw [hg]; exact (below_size (by repeat (first | (with_reducible first | exact HB.out | apply pA | apply pN | apply pD | refine pS ?_ aA.out | refine pS ?_ aB.out | refine pS ?_ aG.out | refine pS ?_ aL.out) | exact HB.out))) : w.heap.size ≤ ag))
         have n11_ := Aside0.mk ((by rw [hg]; exact Nat.ne_of_lt (blk_lt (g := ao) (o := .cells #[.int .i64 am, .slice (some ap) aa.length aq, .slice ar ak.length au, .slice av an.length aw, .int .i64 ab, .int .i64 aN, .int .i64 aO, .int .u8 aK] 48 (0, 0)) (zB al.out)) : ao ≠ ag))
         have n12_ := Aside0.mk ((by rw [hg]; exact Nat.ne_of_gt (blk_lt (g := ao) (o := .cells #[.int .i64 am, .slice (some ap) aa.length aq, .slice ar ak.length au, .slice av an.length aw, .int .i64 ab, .int .i64 aN, .int .i64 aO, .int .u8 aK] 48 (0, 0)) (zB al.out)) : ag ≠ ao))
         have n13_ := Aside0.mk ((by rw [hg]; exact Nat.ne_of_lt (blk_lt (g := aj) (o := .cells #[.int .i64 am, .slice (some ap) aa.length aq, .slice ar ak.length au, .slice av an.length aw] 46 (0, 0)) (zB ae.out)) : aj ≠ ag))
         have n14_ := Aside0.mk ((by rw [hg]; exact Nat.ne_of_gt (blk_lt (g := aj) (o := .cells #[.int .i64 am, .slice (some ap) aa.length aq, .slice ar ak.length au, .slice av an.length aw] 46 (0, 0)) (zB ae.out)) : ag ≠ aj))
         have n15_ := Aside0.mk ((by rw [hg]; exact Nat.ne_of_lt (blk_lt (g := ah) (o := .cells #[.int .i64 ((rd_T51 aa ab).f0), .int .i64 ((rd_T51 aa ab).f1), .int .u32 ((rd_T51 aa ab).f2), .string ((rd_T51 aa ab).f3), .int .u64 ((rd_T51 aa ab).f4), .int .u64 ((rd_T51 aa ab).f5)] 51 (0, 0)) (zB ad.out)) : ah ≠ ag))
         have n16_ := Aside0.mk ((by rw [hg]; exact Nat.ne_of_gt (blk_lt (g := ah) (o := .cells #[.int .i64 ((rd_T51 aa ab).f0), .int .i64 ((rd_T51 aa ab).f1), .int .u32 ((rd_T51 aa ab).f2), .string ((rd_T51 aa ab).f3), .int .u64 ((rd_T51 aa ab).f4), .int .u64 ((rd_T51 aa ab).f5)] 51 (0, 0)) (zB ad.out)) : ag ≠ ah))
         have n17_ := Aside0.mk ((by rw [hg]; exact Nat.ne_of_lt (blk_lt (g := ai) (o := .cells #[.int .u64 az, .int .u64 aD, .int .i64 aE] 24 (0, 0)) (zB af.out)) : ai ≠ ag))
         have n18_ := Aside0.mk ((by rw [hg]; exact Nat.ne_of_gt (blk_lt (g := ai) (o := .cells #[.int .u64 az, .int .u64 aD, .int .i64 aE] 24 (0, 0)) (zB af.out)) : ag ≠ ai))
         clear aH
         clear aI
         clear aJ
         clear al
         clear ae
         clear ad
         clear af
         clear HB
         have aH := n0_
         have aI := n1_
         have aJ := n2_
         have al := n3_
         have ae := n4_
         have ad := n5_
         have af := n6_
         have HB := n7_
         have ax := n8_
         have bi := n9_
         have aQ := n10_
         have bG := n11_
         have bL := n12_
         have bx := n13_
         have bH := n14_
         have bv := n15_
         have bM := n16_
         have bA := n17_
         have bN := n18_
         clear n0_ n1_ n2_ n3_ n4_ n5_ n6_ n7_ n8_ n9_ n10_ n11_ n12_ n13_ n14_ n15_ n16_ n17_ n18_
         clear hb hbox hg
         refine hK.out _ _ ⟨(blk_cell ae.out 0).trans rfl, (blk_cell ae.out 1).trans rfl, (blk_cell ae.out 2).trans rfl, (blk_cell ae.out 3).trans rfl, (blk_cell af.out 0).trans rfl, (blk_cell af.out 1).trans rfl, (blk_cell af.out 2).trans rfl, (blk_cell ad.out 0).trans rfl, (blk_cell ad.out 1).trans rfl, (blk_cell ad.out 2).trans rfl, (blk_cell ad.out 3).trans rfl, (blk_cell ad.out 4).trans rfl, (blk_cell ad.out 5).trans rfl⟩ (fun hHeld => ?_)
         clear hK K
         refine norm_ (a' := ?_) ?_ ?_
         rotate_left
         ·show Act.put _ (some 11) _ = _
          simp only [Act.put, sT, s0, s1, i64_w, i32_w]
          rfl
         exact norm_ (by simp only [putAll, Act.put, sT, s0, s1]) (hCont (v448, v451, v454, ag) _ ⟨hHeld, (zV (Kd.V_mono aH.out (fun _ hk => ⟨hk.1.1, ⟨hk.1.2.1, ⟨hk.1.2.2.1, ⟨hk.1.2.2.2, hk.2⟩⟩⟩⟩))), (zV (Kd.V_mono aI.out (fun _ hk => ⟨hk.1.1, ⟨hk.1.2.1, ⟨hk.1.2.2.1, ⟨hk.1.2.2.2, hk.2⟩⟩⟩⟩))), (zV (Kd.V_mono aJ.out (fun _ hk => ⟨hk.1.1, ⟨hk.1.2.1, ⟨hk.1.2.2.1, ⟨hk.1.2.2.2, hk.2⟩⟩⟩⟩))), (zB al.out), (zB ae.out), (zB ad.out), (zB af.out), (zB ax.out), bi.out, aQ.out, bG.out, bL.out, bx.out, bH.out, bv.out, bM.out, bA.out, bN.out, (by repeat (first | (with_reducible first | exact HB.out | apply pA | apply pN | apply pD | refine pS ?_ aA.out | refine pS ?_ aB.out | refine pS ?_ aG.out | refine pS ?_ aL.out | refine pS ?_ aQ.out) | exact HB.out))⟩)
        ·skip
         refine box_step ?hg (N := 11) ?hd (cs := #[.int .i64 0, .slice none 0 0, .slice none 0 0, .slice none 0 0]) (t := 46) ?hr ?_; (case hd => rfl); (case hg => rfl); (case hr => first | (go_simp; done) | (go_simp; rfl))
         intro ag hg w48 hbox hb
         have n0_ := Aside0.mk (blk_below (g := ao) (o := .cells #[.int .i64 am, .slice (some ap) aa.length aq, .slice ar ak.length au, .slice av an.length aw, .int .i64 ab, .int .i64 aN, .int .i64 aO, .int .u8 aK] 48 (0, 0)) (zB al.out) hb)
         have n1_ := Aside0.mk (blk_below (g := aj) (o := .cells #[.int .i64 am, .slice (some ap) aa.length aq, .slice ar ak.length au, .slice av an.length aw] 46 (0, 0)) (zB ae.out) hb)
         have n2_ := Aside0.mk (blk_below (g := ah) (o := .cells #[.int .i64 ((rd_T51 aa ab).f0), .int .i64 ((rd_T51 aa ab).f1), .int .u32 ((rd_T51 aa ab).f2), .string ((rd_T51 aa ab).f3), .int .u64 ((rd_T51 aa ab).f4), .int .u64 ((rd_T51 aa ab).f5)] 51 (0, 0)) (zB ad.out) hb)
         have n3_ := Aside0.mk (blk_below (g := ai) (o := .cells #[.int .u64 az, .int .u64 aD, .int .i64 aE] 24 (0, 0)) (zB af.out) hb)
         have n4_ := Aside0.mk (below_step (by repeat (first | (with_reducible first | exact HB.out | apply pA | apply pN | apply pD | refine pS ?_ aA.out | refine pS ?_ aB.out | refine pS ?_ aG.out | refine pS ?_ aL.out) | exact HB.out)) hb)
         have n5_ := Aside0.mk (hbox)
         have n6_ := Aside0.mk ((by rw [hg]; exact (below_size (by repeat (first | (with_reducible first | exact HB.out | apply pA | apply pN | apply pD | refine pS ?_ aA.out | refine pS ?_ aB.out | refine pS ?_ aG.out | refine pS ?_ aL.out) | exact HB.out))) : w.heap.size ≤ ag))
         have n7_ := Aside0.mk ((by rw [hg]; exact (below_size (by repeat (first | (with_reducible first | exact HB.out | apply pA | apply pN | apply pD | refine pS ?_ aA.out | refine pS ?_ aB.out | refine pS ?_ aG.out | refine pS ?_ aL.out) | exact HB.out))) : w.heap.size ≤ ag))
         have n8_ := Aside0.mk ((by rw [hg]; exact Nat.ne_of_lt (blk_lt (g := ao) (o := .cells #[.int .i64 am, .slice (some ap) aa.length aq, .slice ar ak.length au, .slice av an.length aw, .int .i64 ab, .int .i64 aN, .int .i64 aO, .int .u8 aK] 48 (0, 0)) (zB al.out)) : ao ≠ ag))
         have n9_ := Aside0.mk ((by rw [hg]; exact Nat.ne_of_gt (blk_lt (g := ao) (o := .cells #[.int .i64 am, .slice (some ap) aa.length aq, .slice ar ak.length au, .slice av an.length aw, .int .i64 ab, .int .i64 aN, .int .i64 aO, .int .u8 aK] 48 (0, 0)) (zB al.out)) : ag ≠ ao))
         have n10_ := Aside0.mk ((by rw [hg]; exact Nat.ne_of_lt (blk_lt (g := aj) (o := .cells #[.int .i64 am, .slice (some ap) aa.length aq, .slice ar ak.length au, .slice av an.length aw] 46 (0, 0)) (zB ae.out)) : aj ≠ ag))
         have n11_ := Aside0.mk ((by rw [hg]; exact Nat.ne_of_gt (blk_lt (g := aj) (o := .cells #[.int .i64 am, .slice (some ap) aa.length aq, .slice ar ak.length au, .slice av an.length aw] 46 (0, 0)) (zB ae.out)) : ag ≠ aj))
         have n12_ := Aside0.mk ((by rw [hg]; exact Nat.ne_of_lt (blk_lt (g := ah) (o := .cells #[.int .i64 ((rd_T51 aa ab).f0), .int .i64 ((rd_T51 aa ab).f1), .int .u32 ((rd_T51 aa ab).f2), .string ((rd_T51 aa ab).f3), .int .u64 ((rd_T51 aa ab).f4), .int .u64 ((rd_T51 aa ab).f5)] 51 (0, 0)) (zB ad.out)) : ah ≠ ag))
         have n13_ := Aside0.mk ((by rw [hg]; exact Nat.ne_of_gt (blk_lt (g := ah) (o := .cells #[.int .i64 ((rd_T51 aa ab).f0), .int .i64 ((rd_T51 aa ab).f1), .int .u32 ((rd_T51 aa ab).f2), .string ((rd_T51 aa ab).f3), .int .u64 ((rd_T51 aa ab).f4), .int .u64 ((rd_T51 aa ab).f5)] 51 (0, 0)) (zB ad.out)) : ag ≠ ah))
         have n14_ := Aside0.mk ((by rw [hg]; exact Nat.ne_of_lt (blk_lt (g := ai) (o := .cells #[.int .u64 az, .int .u64 aD, .int .i64 aE] 24 (0, 0)) (zB af.out)) : ai ≠ ag))
         have n15_ := Aside0.mk ((by rw [hg]; exact Nat.ne_of_gt (blk_lt (g := ai) (o := .cells #[.int .u64 az, .int .u64 aD, .int .i64 aE] 24 (0, 0)) (zB af.out)) : ag ≠ ai))
         clear al
         clear ae
         clear ad
         clear af
         clear HB
         have al := n0_
         have ae := n1_
         have ad := n2_
         have af := n3_
         have HB := n4_
         have ax := n5_
         have bi := n6_
         have aQ := n7_
         have bG := n8_
         have bL := n9_
         have bx := n10_
         have bH := n11_
         have bv := n12_
         have bM := n13_
         have bA := n14_
         have bN := n15_
         clear n0_ n1_ n2_ n3_ n4_ n5_ n6_ n7_ n8_ n9_ n10_ n11_ n12_ n13_ n14_ n15_
         clear hb hbox hg
         refine hK.out _ _ ⟨(blk_cell ae.out 0).trans rfl, (blk_cell ae.out 1).trans rfl, (blk_cell ae.out 2).trans rfl, (blk_cell ae.out 3).trans rfl, (blk_cell af.out 0).trans rfl, (blk_cell af.out 1).trans rfl, (blk_cell af.out 2).trans rfl, (blk_cell ad.out 0).trans rfl, (blk_cell ad.out 1).trans rfl, (blk_cell ad.out 2).trans rfl, (blk_cell ad.out 3).trans rfl, (blk_cell ad.out 4).trans rfl, (blk_cell ad.out 5).trans rfl⟩ (fun hHeld => ?_)
         clear hK K
         refine norm_ (a' := ?_) ?_ ?_
         rotate_left
         ·show Act.put _ (some 11) _ = _
          simp only [Act.put, sT, s0, s1, i64_w, i32_w]
          rfl
         refine one_ (i := 5) (N := some 60) #[oI, oI, oI, oI, oI, oI, oO, oO, oO, oI, oO, oO] rfl rfl (one_of HT_.out (by kernel_rfl)) (by decide) (fun K hK => ?_)
         refine goes_ Try.func23 (by kernel_rfl) rfl #[.agg #[.int .i64 am, .slice (some ap) aa.length aq, .slice ar ak.length au, .slice av an.length aw], .agg #[.int .i64 b6, .int .i64 b7, .int .i64 b8, .int .u32 b9, .string ca, .int .u64 cb, .int .u64 cc, .int .i64 cd, .int .i64 ce]] (by rfl) rfl rfl (by (try simp only [List.map_toArray, List.map_cons, List.map_nil]); first | done | rfl | (simp only [List.length_drop, List.length_take]; rfl)) ?_
         with_reducible refine (portreeveref04_Apply.calls bu am (fun k_ => k_ < w.heap.size) _ _ aa (fun k_ => k_ < w.heap.size) _ _ ak (fun k_ => k_ < w.heap.size) _ _ an b6 b7 b8 b9 ca cb cc cd ce bb aF aS aT bF _ ?side1 ?side2 ?side3 d3.out).mono ?_
         (case side1 => exact Kd.V_mk HC0_1.out (Kd.F_below (Kd.C_F k51_heap bX.out) (by repeat (first | (with_reducible first | exact HB.out | apply pA | apply pN | apply pD | refine pS ?_ aA.out | refine pS ?_ aB.out | refine pS ?_ aG.out | refine pS ?_ aL.out | refine pS ?_ aQ.out) | exact HB.out))))
         (case side2 => exact Kd.V_mk HC0_2.out (Kd.F_below (Kd.C_F k56_heap bZ.out) (by repeat (first | (with_reducible first | exact HB.out | apply pA | apply pN | apply pD | refine pS ?_ aA.out | refine pS ?_ aB.out | refine pS ?_ aG.out | refine pS ?_ aL.out | refine pS ?_ aQ.out) | exact HB.out))))
         (case side3 => exact Kd.V_mk HC0_3.out (Kd.F_below (Kd.C_F k68_heap b0.out) (by repeat (first | (with_reducible first | exact HB.out | apply pA | apply pN | apply pD | refine pS ?_ aA.out | refine pS ?_ aB.out | refine pS ?_ aG.out | refine pS ?_ aL.out | refine pS ?_ aQ.out) | exact HB.out))))
         rintro e w49 ⟨v448, v451, v454, rfl, ho0, ho1, ho2, hb⟩
         refine ⟨_, rfl, ?_⟩
         have n0_ := Aside0.mk (Kd.V_lower (Kd.V_mono (ok' := fun k_ => k_ ≠ ao ∧ k_ ≠ aj ∧ k_ ≠ ah ∧ k_ ≠ ai ∧ k_ ≠ ag) ho0 (fun k_ hk_ => ⟨Or.elim hk_ (fun hs_ => Or.elim hs_ (fun hs_ => fun e_ => Nat.not_le.2 hs_ (by rw [e_]; exact be.out)) (fun hs_ => Or.elim hs_ (fun hs_ => fun e_ => Nat.not_le.2 hs_ (by rw [e_]; exact be.out)) (fun hs_ => fun e_ => Nat.not_le.2 hs_ (by rw [e_]; exact be.out)))) (fun hn_ => (Kd.freshB (g := ao) (o := .cells #[.int .i64 am, .slice (some ap) aa.length aq, .slice ar ak.length au, .slice av an.length aw, .int .i64 ab, .int .i64 aN, .int .i64 aO, .int .u8 aK] 48 (0, 0)) (zB al.out) k_ hn_)), Or.elim hk_ (fun hs_ => Or.elim hs_ (fun hs_ => fun e_ => Nat.not_le.2 hs_ (by rw [e_]; exact bf.out)) (fun hs_ => Or.elim hs_ (fun hs_ => fun e_ => Nat.not_le.2 hs_ (by rw [e_]; exact bf.out)) (fun hs_ => fun e_ => Nat.not_le.2 hs_ (by rw [e_]; exact bf.out)))) (fun hn_ => (Kd.freshB (g := aj) (o := .cells #[.int .i64 am, .slice (some ap) aa.length aq, .slice ar ak.length au, .slice av an.length aw] 46 (0, 0)) (zB ae.out) k_ hn_)), Or.elim hk_ (fun hs_ => Or.elim hs_ (fun hs_ => fun e_ => Nat.not_le.2 hs_ (by rw [e_]; exact bg.out)) (fun hs_ => Or.elim hs_ (fun hs_ => fun e_ => Nat.not_le.2 hs_ (by rw [e_]; exact bg.out)) (fun hs_ => fun e_ => Nat.not_le.2 hs_ (by rw [e_]; exact bg.out)))) (fun hn_ => (Kd.freshB (g := ah) (o := .cells #[.int .i64 ((rd_T51 aa ab).f0), .int .i64 ((rd_T51 aa ab).f1), .int .u32 ((rd_T51 aa ab).f2), .string ((rd_T51 aa ab).f3), .int .u64 ((rd_T51 aa ab).f4), .int .u64 ((rd_T51 aa ab).f5)] 51 (0, 0)) (zB ad.out) k_ hn_)), Or.elim hk_ (fun hs_ => Or.elim hs_ (fun hs_ => fun e_ => Nat.not_le.2 hs_ (by rw [e_]; exact bh.out)) (fun hs_ => Or.elim hs_ (fun hs_ => fun e_ => Nat.not_le.2 hs_ (by rw [e_]; exact bh.out)) (fun hs_ => fun e_ => Nat.not_le.2 hs_ (by rw [e_]; exact bh.out)))) (fun hn_ => (Kd.freshB (g := ai) (o := .cells #[.int .u64 az, .int .u64 aD, .int .i64 aE] 24 (0, 0)) (zB af.out) k_ hn_)), Or.elim hk_ (fun hs_ => Or.elim hs_ (fun hs_ => fun e_ => Nat.not_le.2 hs_ (by rw [e_]; exact bi.out)) (fun hs_ => Or.elim hs_ (fun hs_ => fun e_ => Nat.not_le.2 hs_ (by rw [e_]; exact bi.out)) (fun hs_ => fun e_ => Nat.not_le.2 hs_ (by rw [e_]; exact bi.out)))) (fun hn_ => (Kd.freshB (g := ag) (o := .cells #[.int .i64 0, .slice none 0 0, .slice none 0 0, .slice none 0 0] 46 (0, 0)) (zB ax.out) k_ hn_))⟩)) (below_size (by repeat (first | (with_reducible first | exact HB.out | apply pA | apply pN | apply pD | refine pS ?_ aA.out | refine pS ?_ aB.out | refine pS ?_ aG.out | refine pS ?_ aL.out | refine pS ?_ aQ.out) | exact HB.out))))
         have n1_ := Aside0.mk (Kd.V_lower (Kd.V_mono (ok' := fun k_ => k_ ≠ ao ∧ k_ ≠ aj ∧ k_ ≠ ah ∧ k_ ≠ ai ∧ k_ ≠ ag) ho1 (fun k_ hk_ => ⟨Or.elim hk_ (fun hs_ => Or.elim hs_ (fun hs_ => fun e_ => Nat.not_le.2 hs_ (by rw [e_]; exact be.out)) (fun hs_ => Or.elim hs_ (fun hs_ => fun e_ => Nat.not_le.2 hs_ (by rw [e_]; exact be.out)) (fun hs_ => fun e_ => Nat.not_le.2 hs_ (by rw [e_]; exact be.out)))) (fun hn_ => (Kd.freshB (g := ao) (o := .cells #[.int .i64 am, .slice (some ap) aa.length aq, .slice ar ak.length au, .slice av an.length aw, .int .i64 ab, .int .i64 aN, .int .i64 aO, .int .u8 aK] 48 (0, 0)) (zB al.out) k_ hn_)), Or.elim hk_ (fun hs_ => Or.elim hs_ (fun hs_ => fun e_ => Nat.not_le.2 hs_ (by rw [e_]; exact bf.out)) (fun hs_ => Or.elim hs_ (fun hs_ => fun e_ => Nat.not_le.2 hs_ (by rw [e_]; exact bf.out)) (fun hs_ => fun e_ => Nat.not_le.2 hs_ (by rw [e_]; exact bf.out)))) (fun hn_ => (Kd.freshB (g := aj) (o := .cells #[.int .i64 am, .slice (some ap) aa.length aq, .slice ar ak.length au, .slice av an.length aw] 46 (0, 0)) (zB ae.out) k_ hn_)), Or.elim hk_ (fun hs_ => Or.elim hs_ (fun hs_ => fun e_ => Nat.not_le.2 hs_ (by rw [e_]; exact bg.out)) (fun hs_ => Or.elim hs_ (fun hs_ => fun e_ => Nat.not_le.2 hs_ (by rw [e_]; exact bg.out)) (fun hs_ => fun e_ => Nat.not_le.2 hs_ (by rw [e_]; exact bg.out)))) (fun hn_ => (Kd.freshB (g := ah) (o := .cells #[.int .i64 ((rd_T51 aa ab).f0), .int .i64 ((rd_T51 aa ab).f1), .int .u32 ((rd_T51 aa ab).f2), .string ((rd_T51 aa ab).f3), .int .u64 ((rd_T51 aa ab).f4), .int .u64 ((rd_T51 aa ab).f5)] 51 (0, 0)) (zB ad.out) k_ hn_)), Or.elim hk_ (fun hs_ => Or.elim hs_ (fun hs_ => fun e_ => Nat.not_le.2 hs_ (by rw [e_]; exact bh.out)) (fun hs_ => Or.elim hs_ (fun hs_ => fun e_ => Nat.not_le.2 hs_ (by rw [e_]; exact bh.out)) (fun hs_ => fun e_ => Nat.not_le.2 hs_ (by rw [e_]; exact bh.out)))) (fun hn_ => (Kd.freshB (g := ai) (o := .cells #[.int .u64 az, .int .u64 aD, .int .i64 aE] 24 (0, 0)) (zB af.out) k_ hn_)), Or.elim hk_ (fun hs_ => Or.elim hs_ (fun hs_ => fun e_ => Nat.not_le.2 hs_ (by rw [e_]; exact bi.out)) (fun hs_ => Or.elim hs_ (fun hs_ => fun e_ => Nat.not_le.2 hs_ (by rw [e_]; exact bi.out)) (fun hs_ => fun e_ => Nat.not_le.2 hs_ (by rw [e_]; exact bi.out)))) (fun hn_ => (Kd.freshB (g := ag) (o := .cells #[.int .i64 0, .slice none 0 0, .slice none 0 0, .slice none 0 0] 46 (0, 0)) (zB ax.out) k_ hn_))⟩)) (below_size (by repeat (first | (with_reducible first | exact HB.out | apply pA | apply pN | apply pD | refine pS ?_ aA.out | refine pS ?_ aB.out | refine pS ?_ aG.out | refine pS ?_ aL.out | refine pS ?_ aQ.out) | exact HB.out))))
         have n2_ := Aside0.mk (Kd.V_lower (Kd.V_mono (ok' := fun k_ => k_ ≠ ao ∧ k_ ≠ aj ∧ k_ ≠ ah ∧ k_ ≠ ai ∧ k_ ≠ ag) ho2 (fun k_ hk_ => ⟨Or.elim hk_ (fun hs_ => Or.elim hs_ (fun hs_ => fun e_ => Nat.not_le.2 hs_ (by rw [e_]; exact be.out)) (fun hs_ => Or.elim hs_ (fun hs_ => fun e_ => Nat.not_le.2 hs_ (by rw [e_]; exact be.out)) (fun hs_ => fun e_ => Nat.not_le.2 hs_ (by rw [e_]; exact be.out)))) (fun hn_ => (Kd.freshB (g := ao) (o := .cells #[.int .i64 am, .slice (some ap) aa.length aq, .slice ar ak.length au, .slice av an.length aw, .int .i64 ab, .int .i64 aN, .int .i64 aO, .int .u8 aK] 48 (0, 0)) (zB al.out) k_ hn_)), Or.elim hk_ (fun hs_ => Or.elim hs_ (fun hs_ => fun e_ => Nat.not_le.2 hs_ (by rw [e_]; exact bf.out)) (fun hs_ => Or.elim hs_ (fun hs_ => fun e_ => Nat.not_le.2 hs_ (by rw [e_]; exact bf.out)) (fun hs_ => fun e_ => Nat.not_le.2 hs_ (by rw [e_]; exact bf.out)))) (fun hn_ => (Kd.freshB (g := aj) (o := .cells #[.int .i64 am, .slice (some ap) aa.length aq, .slice ar ak.length au, .slice av an.length aw] 46 (0, 0)) (zB ae.out) k_ hn_)), Or.elim hk_ (fun hs_ => Or.elim hs_ (fun hs_ => fun e_ => Nat.not_le.2 hs_ (by rw [e_]; exact bg.out)) (fun hs_ => Or.elim hs_ (fun hs_ => fun e_ => Nat.not_le.2 hs_ (by rw [e_]; exact bg.out)) (fun hs_ => fun e_ => Nat.not_le.2 hs_ (by rw [e_]; exact bg.out)))) (fun hn_ => (Kd.freshB (g := ah) (o := .cells #[.int .i64 ((rd_T51 aa ab).f0), .int .i64 ((rd_T51 aa ab).f1), .int .u32 ((rd_T51 aa ab).f2), .string ((rd_T51 aa ab).f3), .int .u64 ((rd_T51 aa ab).f4), .int .u64 ((rd_T51 aa ab).f5)] 51 (0, 0)) (zB ad.out) k_ hn_)), Or.elim hk_ (fun hs_ => Or.elim hs_ (fun hs_ => fun e_ => Nat.not_le.2 hs_ (by rw [e_]; exact bh.out)) (fun hs_ => Or.elim hs_ (fun hs_ => fun e_ => Nat.not_le.2 hs_ (by rw [e_]; exact bh.out)) (fun hs_ => fun e_ => Nat.not_le.2 hs_ (by rw [e_]; exact bh.out)))) (fun hn_ => (Kd.freshB (g := ai) (o := .cells #[.int .u64 az, .int .u64 aD, .int .i64 aE] 24 (0, 0)) (zB af.out) k_ hn_)), Or.elim hk_ (fun hs_ => Or.elim hs_ (fun hs_ => fun e_ => Nat.not_le.2 hs_ (by rw [e_]; exact bi.out)) (fun hs_ => Or.elim hs_ (fun hs_ => fun e_ => Nat.not_le.2 hs_ (by rw [e_]; exact bi.out)) (fun hs_ => fun e_ => Nat.not_le.2 hs_ (by rw [e_]; exact bi.out)))) (fun hn_ => (Kd.freshB (g := ag) (o := .cells #[.int .i64 0, .slice none 0 0, .slice none 0 0, .slice none 0 0] 46 (0, 0)) (zB ax.out) k_ hn_))⟩)) (below_size (by repeat (first | (with_reducible first | exact HB.out | apply pA | apply pN | apply pD | refine pS ?_ aA.out | refine pS ?_ aB.out | refine pS ?_ aG.out | refine pS ?_ aL.out | refine pS ?_ aQ.out) | exact HB.out))))
         have n3_ := Aside0.mk (blk_below (g := ao) (o := .cells #[.int .i64 am, .slice (some ap) aa.length aq, .slice ar ak.length au, .slice av an.length aw, .int .i64 ab, .int .i64 aN, .int .i64 aO, .int .u8 aK] 48 (0, 0)) (zB al.out) hb)
         have n4_ := Aside0.mk (blk_below (g := aj) (o := .cells #[.int .i64 am, .slice (some ap) aa.length aq, .slice ar ak.length au, .slice av an.length aw] 46 (0, 0)) (zB ae.out) hb)
         have n5_ := Aside0.mk (blk_below (g := ah) (o := .cells #[.int .i64 ((rd_T51 aa ab).f0), .int .i64 ((rd_T51 aa ab).f1), .int .u32 ((rd_T51 aa ab).f2), .string ((rd_T51 aa ab).f3), .int .u64 ((rd_T51 aa ab).f4), .int .u64 ((rd_T51 aa ab).f5)] 51 (0, 0)) (zB ad.out) hb)
         have n6_ := Aside0.mk (blk_below (g := ai) (o := .cells #[.int .u64 az, .int .u64 aD, .int .i64 aE] 24 (0, 0)) (zB af.out) hb)
         have n7_ := Aside0.mk (blk_below (g := ag) (o := .cells #[.int .i64 0, .slice none 0 0, .slice none 0 0, .slice none 0 0] 46 (0, 0)) (zB ax.out) hb)
         have n8_ := Aside0.mk (below_step (by repeat (first | (with_reducible first | exact HB.out | apply pA | apply pN | apply pD | refine pS ?_ aA.out | refine pS ?_ aB.out | refine pS ?_ aG.out | refine pS ?_ aL.out | refine pS ?_ aQ.out) | exact HB.out)) hb)
         clear al
         clear ae
         clear ad
         clear af
         clear ax
         clear HB
         have aH := n0_
         have aI := n1_
         have aJ := n2_
         have al := n3_
         have ae := n4_
         have ad := n5_
         have af := n6_
         have ax := n7_
         have HB := n8_
         clear n0_ n1_ n2_ n3_ n4_ n5_ n6_ n7_ n8_
         (try clear hb)
         (try clear hb2)
         (try clear hk)
         (try clear hi)
         (try clear ho0)
         (try clear ho1)
         (try clear ho2)
         refine hK.out _ _ ⟨(blk_cell ae.out 0).trans rfl, (blk_cell ae.out 1).trans rfl, (blk_cell ae.out 2).trans rfl, (blk_cell ae.out 3).trans rfl, (blk_cell af.out 0).trans rfl, (blk_cell af.out 1).trans rfl, (blk_cell af.out 2).trans rfl, (blk_cell ad.out 0).trans rfl, (blk_cell ad.out 1).trans rfl, (blk_cell ad.out 2).trans rfl, (blk_cell ad.out 3).trans rfl, (blk_cell ad.out 4).trans rfl, (blk_cell ad.out 5).trans rfl⟩ (fun hHeld => ?_)
         clear hK K
         refine norm_ (a' := ?_) ?_ ?_
         rotate_left
         ·show Act.put _ (some 60) _ = _
          simp only [Act.put, sT, s0, s1, i64_w, i32_w]
          rfl
         refine pure_ (i := 6) (N := some 54) (v := ?_) (a' := ?_) #[oI, oI, oI, oI, oI, oI, oI, oO, oO, oI, oO, oO] rfl rfl (any_of HT_.out (by kernel_rfl)) (fun _ _ _ h => h) (Or.inl ⟨by rfl, ?_⟩) ?_ ?_
         rotate_left
         ·intro w'
          go_simp
          with_reducible rfl
         rotate_left
         ·simp only [Act.put, sT, s0, s1, i64_w, i32_w]
          rfl
         refine pure_ (i := 7) (N := some 61) (v := ?_) (a' := ?_) #[oI, oI, oI, oI, oI, oI, oI, oI, oO, oI, oO, oO] rfl rfl (any_of HT_.out (by kernel_rfl)) (fun _ _ _ h => h) (Or.inl ⟨by rfl, ?_⟩) ?_ ?_
         rotate_left
         ·intro w'
          go_simp
          with_reducible rfl
         rotate_left
         ·simp only [Act.put, sT, s0, s1, i64_w, i32_w]
          rfl
         refine pure_ (i := 8) (N := some 62) (v := ?_) (a' := ?_) #[oI, oI, oI, oI, oI, oI, oI, oI, oI, oI, oO, oO] rfl rfl (any_of HT_.out (by kernel_rfl)) (fun _ _ _ h => h) (Or.inl ⟨by rfl, ?_⟩) ?_ ?_
         rotate_left
         ·intro w'
          go_simp
          with_reducible rfl
         rotate_left
         ·simp only [Act.put, sT, s0, s1, i64_w, i32_w]
          rfl
         exact norm_ (by simp only [putAll, Act.put, sT, s0, s1]) (hCont (v448, v451, v454, ag) _ ⟨hHeld, (zV aH.out), (zV aI.out), (zV aJ.out), (zB al.out), (zB ae.out), (zB ad.out), (zB af.out), (zB ax.out), bi.out, aQ.out, bG.out, bL.out, bx.out, bH.out, bv.out, bM.out, bA.out, bN.out, (by repeat (first | (with_reducible first | exact HB.out | apply pA | apply pN | apply pD | refine pS ?_ aA.out | refine pS ?_ aB.out | refine pS ?_ aG.out | refine pS ?_ aL.out | refine pS ?_ aQ.out) | exact HB.out))⟩)
       ·skip
        refine box_step ?hg (N := 11) ?hd (cs := #[.int .i64 0, .slice none 0 0, .slice none 0 0, .slice none 0 0]) (t := 46) ?hr ?_; (case hd => rfl); (case hg => rfl); (case hr => first | (go_simp; done) | (go_simp; rfl))
        intro ag hg w47 hbox hb
        have n0_ := Aside0.mk (blk_below (g := ao) (o := .cells #[.int .i64 am, .slice (some ap) aa.length aq, .slice ar ak.length au, .slice av an.length aw, .int .i64 ab, .int .i64 aN, .int .i64 aO, .int .u8 aK] 48 (0, 0)) (zB al.out) hb)
        have n1_ := Aside0.mk (blk_below (g := aj) (o := .cells #[.int .i64 am, .slice (some ap) aa.length aq, .slice ar ak.length au, .slice av an.length aw] 46 (0, 0)) (zB ae.out) hb)
        have n2_ := Aside0.mk (blk_below (g := ah) (o := .cells #[.int .i64 ((rd_T51 aa ab).f0), .int .i64 ((rd_T51 aa ab).f1), .int .u32 ((rd_T51 aa ab).f2), .string ((rd_T51 aa ab).f3), .int .u64 ((rd_T51 aa ab).f4), .int .u64 ((rd_T51 aa ab).f5)] 51 (0, 0)) (zB ad.out) hb)
        have n3_ := Aside0.mk (blk_below (g := ai) (o := .cells #[.int .u64 az, .int .u64 aD, .int .i64 aE] 24 (0, 0)) (zB af.out) hb)
        have n4_ := Aside0.mk (below_step (by repeat (first | (with_reducible first | exact HB.out | apply pA | apply pN | apply pD | refine pS ?_ aA.out | refine pS ?_ aB.out | refine pS ?_ aG.out | refine pS ?_ aL.out) | exact HB.out)) hb)
        have n5_ := Aside0.mk (hbox)
        have n6_ := Aside0.mk ((by rw [hg]; exact (below_size (by repeat (first | (with_reducible first | exact HB.out | apply pA | apply pN | apply pD | refine pS ?_ aA.out | refine pS ?_ aB.out | refine pS ?_ aG.out | refine pS ?_ aL.out) | exact HB.out))) : w.heap.size ≤ ag))
        have n7_ := Aside0.mk ((by rw [hg]; exact (below_size (by repeat (first | (with_reducible first | exact HB.out | apply pA | apply pN | apply pD | refine pS ?_ aA.out | refine pS ?_ aB.out | refine pS ?_ aG.out | refine pS ?_ aL.out) | exact HB.out))) : w.heap.size ≤ ag))
        have n8_ := Aside0.mk ((by rw [hg]; exact Nat.ne_of_lt (blk_lt (g := ao) (o := .cells #[.int .i64 am, .slice (some ap) aa.length aq, .slice ar ak.length au, .slice av an.length aw, .int .i64 ab, .int .i64 aN, .int .i64 aO, .int .u8 aK] 48 (0, 0)) (zB al.out)) : ao ≠ ag))
        have n9_ := Aside0.mk ((by rw [hg]; exact Nat.ne_of_gt (blk_lt (g := ao) (o := .cells #[.int .i64 am, .slice (some ap) aa.length aq, .slice ar ak.length au, .slice av an.length aw, .int .i64 ab, .int .i64 aN, .int .i64 aO, .int .u8 aK] 48 (0, 0)) (zB al.out)) : ag ≠ ao))
        have n10_ := Aside0.mk ((by rw [hg]; exact Nat.ne_of_lt (blk_lt (g := aj) (o := .cells #[.int .i64 am, .slice (some ap) aa.length aq, .slice ar ak.length au, .slice av an.length aw] 46 (0, 0)) (zB ae.out)) : aj ≠ ag))
        have n11_ := Aside0.mk ((by rw [hg]; exact Nat.ne_of_gt (blk_lt (g := aj) (o := .cells #[.int .i64 am, .slice (some ap) aa.length aq, .slice ar ak.length au, .slice av an.length aw] 46 (0, 0)) (zB ae.out)) : ag ≠ aj))
        have n12_ := Aside0.mk ((by rw [hg]; exact Nat.ne_of_lt (blk_lt (g := ah) (o := .cells #[.int .i64 ((rd_T51 aa ab).f0), .int .i64 ((rd_T51 aa ab).f1), .int .u32 ((rd_T51 aa ab).f2), .string ((rd_T51 aa ab).f3), .int .u64 ((rd_T51 aa ab).f4), .int .u64 ((rd_T51 aa ab).f5)] 51 (0, 0)) (zB ad.out)) : ah ≠ ag))
        have n13_ := Aside0.mk ((by rw [hg]; exact Nat.ne_of_gt (blk_lt (g := ah) (o := .cells #[.int .i64 ((rd_T51 aa ab).f0), .int .i64 ((rd_T51 aa ab).f1), .int .u32 ((rd_T51 aa ab).f2), .string ((rd_T51 aa ab).f3), .int .u64 ((rd_T51 aa ab).f4), .int .u64 ((rd_T51 aa ab).f5)] 51 (0, 0)) (zB ad.out)) : ag ≠ ah))
        have n14_ := Aside0.mk ((by rw [hg]; exact Nat.ne_of_lt (blk_lt (g := ai) (o := .cells #[.int .u64 az, .int .u64 aD, .int .i64 aE] 24 (0, 0)) (zB af.out)) : ai ≠ ag))
        have n15_ := Aside0.mk ((by rw [hg]; exact Nat.ne_of_gt (blk_lt (g := ai) (o := .cells #[.int .u64 az, .int .u64 aD, .int .i64 aE] 24 (0, 0)) (zB af.out)) : ag ≠ ai))
        clear al
        clear ae
        clear ad
        clear af
        clear HB
        have al := n0_
        have ae := n1_
        have ad := n2_
        have af := n3_
        have HB := n4_
        have ax := n5_
        have bi := n6_
        have aQ := n7_
        have bG := n8_
        have bL := n9_
        have bx := n10_
        have bH := n11_
        have bv := n12_
        have bM := n13_
        have bA := n14_
        have bN := n15_
        clear n0_ n1_ n2_ n3_ n4_ n5_ n6_ n7_ n8_ n9_ n10_ n11_ n12_ n13_ n14_ n15_
        clear hb hbox hg
        refine hK.out _ _ ⟨(blk_cell ae.out 0).trans rfl, (blk_cell ae.out 1).trans rfl, (blk_cell ae.out 2).trans rfl, (blk_cell ae.out 3).trans rfl, (blk_cell af.out 0).trans rfl, (blk_cell af.out 1).trans rfl, (blk_cell af.out 2).trans rfl, (blk_cell ad.out 0).trans rfl, (blk_cell ad.out 1).trans rfl, (blk_cell ad.out 2).trans rfl, (blk_cell ad.out 3).trans rfl, (blk_cell ad.out 4).trans rfl, (blk_cell ad.out 5).trans rfl⟩ (fun hHeld => ?_)
        clear hK K
        refine norm_ (a' := ?_) ?_ ?_
        rotate_left
        ·show Act.put _ (some 11) _ = _
         simp only [Act.put, sT, s0, s1, i64_w, i32_w]
         rfl
        refine one_ (i := 4) (N := some 59) #[oI, oI, oI, oI, oI, oO, oO, oO, oO, oI, oO, oO] rfl rfl (one_of HT_.out (by kernel_rfl)) (by decide) (fun K hK => ?_)
        refine goes_ Try.func18 (by kernel_rfl) rfl #[.agg #[.int .u64 az, .int .u64 aD, .int .i64 aE], .int .i64 ((rd_T51 aa ab).f0)] (by rfl) rfl rfl (by (try simp only [List.map_toArray, List.map_cons, List.map_nil]); first | done | rfl | (simp only [List.length_drop, List.length_take]; rfl)) ?_
        with_reducible refine (meter_Note.calls az aD aE ((rd_T51 aa ab).f0) b6 b7 b8 b9 ca cb cc cd ce _ eo.out).mono ?_
        rintro e w48 ⟨rfl, hb⟩
        refine ⟨_, rfl, ?_⟩
        have n0_ := Aside0.mk (blk_below (g := ao) (o := .cells #[.int .i64 am, .slice (some ap) aa.length aq, .slice ar ak.length au, .slice av an.length aw, .int .i64 ab, .int .i64 aN, .int .i64 aO, .int .u8 aK] 48 (0, 0)) (zB al.out) hb)
        have n1_ := Aside0.mk (blk_below (g := aj) (o := .cells #[.int .i64 am, .slice (some ap) aa.length aq, .slice ar ak.length au, .slice av an.length aw] 46 (0, 0)) (zB ae.out) hb)
        have n2_ := Aside0.mk (blk_below (g := ah) (o := .cells #[.int .i64 ((rd_T51 aa ab).f0), .int .i64 ((rd_T51 aa ab).f1), .int .u32 ((rd_T51 aa ab).f2), .string ((rd_T51 aa ab).f3), .int .u64 ((rd_T51 aa ab).f4), .int .u64 ((rd_T51 aa ab).f5)] 51 (0, 0)) (zB ad.out) hb)
        have n3_ := Aside0.mk (blk_below (g := ai) (o := .cells #[.int .u64 az, .int .u64 aD, .int .i64 aE] 24 (0, 0)) (zB af.out) hb)
        have n4_ := Aside0.mk (blk_below (g := ag) (o := .cells #[.int .i64 0, .slice none 0 0, .slice none 0 0, .slice none 0 0] 46 (0, 0)) (zB ax.out) hb)
        have n5_ := Aside0.mk (below_step (by repeat (first | (with_reducible first | exact HB.out | apply pA | apply pN | apply pD | refine pS ?_ aA.out | refine pS ?_ aB.out | refine pS ?_ aG.out | refine pS ?_ aL.out | refine pS ?_ aQ.out) | exact HB.out)) hb)
        clear al
        clear ae
        clear ad
        clear af
        clear ax
        clear HB
        have al := n0_
        have ae := n1_
        have ad := n2_
        have af := n3_
        have ax := n4_
        have HB := n5_
        clear n0_ n1_ n2_ n3_ n4_ n5_
        (try clear hb)
        (try clear hb2)
        (try clear hk)
        (try clear hi)
        refine hK.out _ _ ⟨(blk_cell ae.out 0).trans rfl, (blk_cell ae.out 1).trans rfl, (blk_cell ae.out 2).trans rfl, (blk_cell ae.out 3).trans rfl, (blk_cell af.out 0).trans rfl, (blk_cell af.out 1).trans rfl, (blk_cell af.out 2).trans rfl, (blk_cell ad.out 0).trans rfl, (blk_cell ad.out 1).trans rfl, (blk_cell ad.out 2).trans rfl, (blk_cell ad.out 3).trans rfl, (blk_cell ad.out 4).trans rfl, (blk_cell ad.out 5).trans rfl⟩ (fun hHeld => ?_)
        clear hK K
        refine norm_ (a' := ?_) ?_ ?_
        rotate_left
        ·show Act.put _ (some 59) _ = _
         simp only [Act.put, sT, s0, s1, i64_w, i32_w]
         rfl
        refine one_ (i := 5) (N := some 60) #[oI, oI, oI, oI, oI, oI, oO, oO, oO, oI, oO, oO] rfl rfl (one_of HT_.out (by kernel_rfl)) (by decide) (fun K hK => ?_)
        refine goes_ Try.func23 (by kernel_rfl) rfl #[.agg #[.int .i64 am, .slice (some ap) aa.length aq, .slice ar ak.length au, .slice av an.length aw], .agg #[.int .i64 b6, .int .i64 b7, .int .i64 b8, .int .u32 b9, .string ca, .int .u64 cb, .int .u64 cc, .int .i64 cd, .int .i64 ce]] (by rfl) rfl rfl (by (try simp only [List.map_toArray, List.map_cons, List.map_nil]); first | done | rfl | (simp only [List.length_drop, List.length_take]; rfl)) ?_
        with_reducible refine (portreeveref04_Apply.calls bu am (fun k_ => k_ < w.heap.size) _ _ aa (fun k_ => k_ < w.heap.size) _ _ ak (fun k_ => k_ < w.heap.size) _ _ an b6 b7 b8 b9 ca cb cc cd ce bb aF aS aT bF _ ?side1 ?side2 ?side3 d3.out).mono ?_
        (case side1 => exact Kd.V_mk HC0_1.out (Kd.F_below (Kd.C_F k51_heap bX.out) (by repeat (first | (with_reducible first | exact HB.out | apply pA | apply pN | apply pD | refine pS ?_ aA.out | refine pS ?_ aB.out | refine pS ?_ aG.out | refine pS ?_ aL.out | refine pS ?_ aQ.out) | exact HB.out))))
        (case side2 => exact Kd.V_mk HC0_2.out (Kd.F_below (Kd.C_F k56_heap bZ.out) (by repeat (first | (with_reducible first | exact HB.out | apply pA | apply pN | apply pD | refine pS ?_ aA.out | refine pS ?_ aB.out | refine pS ?_ aG.out | refine pS ?_ aL.out | refine pS ?_ aQ.out) | exact HB.out))))
        (case side3 => exact Kd.V_mk HC0_3.out (Kd.F_below (Kd.C_F k68_heap b0.out) (by repeat (first | (with_reducible first | exact HB.out | apply pA | apply pN | apply pD | refine pS ?_ aA.out | refine pS ?_ aB.out | refine pS ?_ aG.out | refine pS ?_ aL.out | refine pS ?_ aQ.out) | exact HB.out))))
        rintro e w49 ⟨v448, v451, v454, rfl, ho0, ho1, ho2, hb⟩
        refine ⟨_, rfl, ?_⟩
        have n0_ := Aside0.mk (Kd.V_lower (Kd.V_mono (ok' := fun k_ => k_ ≠ ao ∧ k_ ≠ aj ∧ k_ ≠ ah ∧ k_ ≠ ai ∧ k_ ≠ ag) ho0 (fun k_ hk_ => ⟨Or.elim hk_ (fun hs_ => Or.elim hs_ (fun hs_ => fun e_ => Nat.not_le.2 hs_ (by rw [e_]; exact be.out)) (fun hs_ => Or.elim hs_ (fun hs_ => fun e_ => Nat.not_le.2 hs_ (by rw [e_]; exact be.out)) (fun hs_ => fun e_ => Nat.not_le.2 hs_ (by rw [e_]; exact be.out)))) (fun hn_ => (Kd.freshB (g := ao) (o := .cells #[.int .i64 am, .slice (some ap) aa.length aq, .slice ar ak.length au, .slice av an.length aw, .int .i64 ab, .int .i64 aN, .int .i64 aO, .int .u8 aK] 48 (0, 0)) (zB al.out) k_ hn_)), Or.elim hk_ (fun hs_ => Or.elim hs_ (fun hs_ => fun e_ => Nat.not_le.2 hs_ (by rw [e_]; exact bf.out)) (fun hs_ => Or.elim hs_ (fun hs_ => fun e_ => Nat.not_le.2 hs_ (by rw [e_]; exact bf.out)) (fun hs_ => fun e_ => Nat.not_le.2 hs_ (by rw [e_]; exact bf.out)))) (fun hn_ => (Kd.freshB (g := aj) (o := .cells #[.int .i64 am, .slice (some ap) aa.length aq, .slice ar ak.length au, .slice av an.length aw] 46 (0, 0)) (zB ae.out) k_ hn_)), Or.elim hk_ (fun hs_ => Or.elim hs_ (fun hs_ => fun e_ => Nat.not_le.2 hs_ (by rw [e_]; exact bg.out)) (fun hs_ => Or.elim hs_ (fun hs_ => fun e_ => Nat.not_le.2 hs_ (by rw [e_]; exact bg.out)) (fun hs_ => fun e_ => Nat.not_le.2 hs_ (by rw [e_]; exact bg.out)))) (fun hn_ => (Kd.freshB (g := ah) (o := .cells #[.int .i64 ((rd_T51 aa ab).f0), .int .i64 ((rd_T51 aa ab).f1), .int .u32 ((rd_T51 aa ab).f2), .string ((rd_T51 aa ab).f3), .int .u64 ((rd_T51 aa ab).f4), .int .u64 ((rd_T51 aa ab).f5)] 51 (0, 0)) (zB ad.out) k_ hn_)), Or.elim hk_ (fun hs_ => Or.elim hs_ (fun hs_ => fun e_ => Nat.not_le.2 hs_ (by rw [e_]; exact bh.out)) (fun hs_ => Or.elim hs_ (fun hs_ => fun e_ => Nat.not_le.2 hs_ (by rw [e_]; exact bh.out)) (fun hs_ => fun e_ => Nat.not_le.2 hs_ (by rw [e_]; exact bh.out)))) (fun hn_ => (Kd.freshB (g := ai) (o := .cells #[.int .u64 az, .int .u64 aD, .int .i64 aE] 24 (0, 0)) (zB af.out) k_ hn_)), Or.elim hk_ (fun hs_ => Or.elim hs_ (fun hs_ => fun e_ => Nat.not_le.2 hs_ (by rw [e_]; exact bi.out)) (fun hs_ => Or.elim hs_ (fun hs_ => fun e_ => Nat.not_le.2 hs_ (by rw [e_]; exact bi.out)) (fun hs_ => fun e_ => Nat.not_le.2 hs_ (by rw [e_]; exact bi.out)))) (fun hn_ => (Kd.freshB (g := ag) (o := .cells #[.int .i64 0, .slice none 0 0, .slice none 0 0, .slice none 0 0] 46 (0, 0)) (zB ax.out) k_ hn_))⟩)) (below_size (by repeat (first | (with_reducible first | exact HB.out | apply pA | apply pN | apply pD | refine pS ?_ aA.out | refine pS ?_ aB.out | refine pS ?_ aG.out | refine pS ?_ aL.out | refine pS ?_ aQ.out) | exact HB.out))))
        have n1_ := Aside0.mk (Kd.V_lower (Kd.V_mono (ok' := fun k_ => k_ ≠ ao ∧ k_ ≠ aj ∧ k_ ≠ ah ∧ k_ ≠ ai ∧ k_ ≠ ag) ho1 (fun k_ hk_ => ⟨Or.elim hk_ (fun hs_ => Or.elim hs_ (fun hs_ => fun e_ => Nat.not_le.2 hs_ (by rw [e_]; exact be.out)) (fun hs_ => Or.elim hs_ (fun hs_ => fun e_ => Nat.not_le.2 hs_ (by rw [e_]; exact be.out)) (fun hs_ => fun e_ => Nat.not_le.2 hs_ (by rw [e_]; exact be.out)))) (fun hn_ => (Kd.freshB (g := ao) (o := .cells #[.int .i64 am, .slice (some ap) aa.length aq, .slice ar ak.length au, .slice av an.length aw, .int .i64 ab, .int .i64 aN, .int .i64 aO, .int .u8 aK] 48 (0, 0)) (zB al.out) k_ hn_)), Or.elim hk_ (fun hs_ => Or.elim hs_ (fun hs_ => fun e_ => Nat.not_le.2 hs_ (by rw [e_]; exact bf.out)) (fun hs_ => Or.elim hs_ (fun hs_ => fun e_ => Nat.not_le.2 hs_ (by rw [e_]; exact bf.out)) (fun hs_ => fun e_ => Nat.not_le.2 hs_ (by rw [e_]; exact bf.out)))) (fun hn_ => (Kd.freshB (g := aj) (o := .cells #[.int .i64 am, .slice (some ap) aa.length aq, .slice ar ak.length au, .slice av an.length aw] 46 (0, 0)) (zB ae.out) k_ hn_)), Or.elim hk_ (fun hs_ => Or.elim hs_ (fun hs_ => fun e_ => Nat.not_le.2 hs_ (by rw [e_]; exact bg.out)) (fun hs_ => Or.elim hs_ (fun hs_ => fun e_ => Nat.not_le.2 hs_ (by rw [e_]; exact bg.out)) (fun hs_ => fun e_ => Nat.not_le.2 hs_ (by rw [e_]; exact bg.out)))) (fun hn_ => (Kd.freshB (g := ah) (o := .cells #[.int .i64 ((rd_T51 aa ab).f0), .int .i64 ((rd_T51 aa ab).f1), .int .u32 ((rd_T51 aa ab).f2), .string ((rd_T51 aa ab).f3), .int .u64 ((rd_T51 aa ab).f4), .int .u64 ((rd_T51 aa ab).f5)] 51 (0, 0)) (zB ad.out) k_ hn_)), Or.elim hk_ (fun hs_ => Or.elim hs_ (fun hs_ => fun e_ => Nat.not_le.2 hs_ (by rw [e_]; exact bh.out)) (fun hs_ => Or.elim hs_ (fun hs_ => fun e_ => Nat.not_le.2 hs_ (by rw [e_]; exact bh.out)) (fun hs_ => fun e_ => Nat.not_le.2 hs_ (by rw [e_]; exact bh.out)))) (fun hn_ => (Kd.freshB (g := ai) (o := .cells #[.int .u64 az, .int .u64 aD, .int .i64 aE] 24 (0, 0)) (zB af.out) k_ hn_)), Or.elim hk_ (fun hs_ => Or.elim hs_ (fun hs_ => fun e_ => Nat.not_le.2 hs_ (by rw [e_]; exact bi.out)) (fun hs_ => Or.elim hs_ (fun hs_ => fun e_ => Nat.not_le.2 hs_ (by rw [e_]; exact bi.out)) (fun hs_ => fun e_ => Nat.not_le.2 hs_ (by rw [e_]; exact bi.out)))) (fun hn_ => (Kd.freshB (g := ag) (o := .cells #[.int .i64 0, .slice none 0 0, .slice none 0 0, .slice none 0 0] 46 (0, 0)) (zB ax.out) k_ hn_))⟩)) (below_size (by repeat (first | (with_reducible first | exact HB.out | apply pA | apply pN | apply pD | refine pS ?_ aA.out | refine pS ?_ aB.out | refine pS ?_ aG.out | refine pS ?_ aL.out | refine pS ?_ aQ.out) | exact HB.out))))
        have n2_ := Aside0.mk (Kd.V_lower (Kd.V_mono (ok' := fun k_ => k_ ≠ ao ∧ k_ ≠ aj ∧ k_ ≠ ah ∧ k_ ≠ ai ∧ k_ ≠ ag) ho2 (fun k_ hk_ => ⟨Or.elim hk_ (fun hs_ => Or.elim hs_ (fun hs_ => fun e_ => Nat.not_le.2 hs_ (by rw [e_]; exact be.out)) (fun hs_ => Or.elim hs_ (fun hs_ => fun e_ => Nat.not_le.2 hs_ (by rw [e_]; exact be.out)) (fun hs_ => fun e_ => Nat.not_le.2 hs_ (by rw [e_]; exact be.out)))) (fun hn_ => (Kd.freshB (g := ao) (o := .cells #[.int .i64 am, .slice (some ap) aa.length aq, .slice ar ak.length au, .slice av an.length aw, .int .i64 ab, .int .i64 aN, .int .i64 aO, .int .u8 aK] 48 (0, 0)) (zB al.out) k_ hn_)), Or.elim hk_ (fun hs_ => Or.elim hs_ (fun hs_ => fun e_ => Nat.not_le.2 hs_ (by rw [e_]; exact bf.out)) (fun hs_ => Or.elim hs_ (fun hs_ => fun e_ => Nat.not_le.2 hs_ (by rw [e_]; exact bf.out)) (fun hs_ => fun e_ => Nat.not_le.2 hs_ (by rw [e_]; exact bf.out)))) (fun hn_ => (Kd.freshB (g := aj) (o := .cells #[.int .i64 am, .slice (some ap) aa.length aq, .slice ar ak.length au, .slice av an.length aw] 46 (0, 0)) (zB ae.out) k_ hn_)), Or.elim hk_ (fun hs_ => Or.elim hs_ (fun hs_ => fun e_ => Nat.not_le.2 hs_ (by rw [e_]; exact bg.out)) (fun hs_ => Or.elim hs_ (fun hs_ => fun e_ => Nat.not_le.2 hs_ (by rw [e_]; exact bg.out)) (fun hs_ => fun e_ => Nat.not_le.2 hs_ (by rw [e_]; exact bg.out)))) (fun hn_ => (Kd.freshB (g := ah) (o := .cells #[.int .i64 ((rd_T51 aa ab).f0), .int .i64 ((rd_T51 aa ab).f1), .int .u32 ((rd_T51 aa ab).f2), .string ((rd_T51 aa ab).f3), .int .u64 ((rd_T51 aa ab).f4), .int .u64 ((rd_T51 aa ab).f5)] 51 (0, 0)) (zB ad.out) k_ hn_)), Or.elim hk_ (fun hs_ => Or.elim hs_ (fun hs_ => fun e_ => Nat.not_le.2 hs_ (by rw [e_]; exact bh.out)) (fun hs_ => Or.elim hs_ (fun hs_ => fun e_ => Nat.not_le.2 hs_ (by rw [e_]; exact bh.out)) (fun hs_ => fun e_ => Nat.not_le.2 hs_ (by rw [e_]; exact bh.out)))) (fun hn_ => (Kd.freshB (g := ai) (o := .cells #[.int .u64 az, .int .u64 aD, .int .i64 aE] 24 (0, 0)) (zB af.out) k_ hn_)), Or.elim hk_ (fun hs_ => Or.elim hs_ (fun hs_ => fun e_ => Nat.not_le.2 hs_ (by rw [e_]; exact bi.out)) (fun hs_ => Or.elim hs_ (fun hs_ => fun e_ => Nat.not_le.2 hs_ (by rw [e_]; exact bi.out)) (fun hs_ => fun e_ => Nat.not_le.2 hs_ (by rw [e_]; exact bi.out)))) (fun hn_ => (Kd.freshB (g := ag) (o := .cells #[.int .i64 0, .slice none 0 0, .slice none 0 0, .slice none 0 0] 46 (0, 0)) (zB ax.out) k_ hn_))⟩)) (below_size (by repeat (first | (with_reducible first | exact HB.out | apply pA | apply pN | apply pD | refine pS ?_ aA.out | refine pS ?_ aB.out | refine pS ?_ aG.out | refine pS ?_ aL.out | refine pS ?_ aQ.out) | exact HB.out))))
        have n3_ := Aside0.mk (blk_below (g := ao) (o := .cells #[.int .i64 am, .slice (some ap) aa.length aq, .slice ar ak.length au, .slice av an.length aw, .int .i64 ab, .int .i64 aN, .int .i64 aO, .int .u8 aK] 48 (0, 0)) (zB al.out) hb)
        have n4_ := Aside0.mk (blk_below (g := aj) (o := .cells #[.int .i64 am, .slice (some ap) aa.length aq, .slice ar ak.length au, .slice av an.length aw] 46 (0, 0)) (zB ae.out) hb)
        have n5_ := Aside0.mk (blk_below (g := ah) (o := .cells #[.int .i64 ((rd_T51 aa ab).f0), .int .i64 ((rd_T51 aa ab).f1), .int .u32 ((rd_T51 aa ab).f2), .string ((rd_T51 aa ab).f3), .int .u64 ((rd_T51 aa ab).f4), .int .u64 ((rd_T51 aa ab).f5)] 51 (0, 0)) (zB ad.out) hb)
        have n6_ := Aside0.mk (blk_below (g := ai) (o := .cells #[.int .u64 az, .int .u64 aD, .int .i64 aE] 24 (0, 0)) (zB af.out) hb)
        have n7_ := Aside0.mk (blk_below (g := ag) (o := .cells #[.int .i64 0, .slice none 0 0, .slice none 0 0, .slice none 0 0] 46 (0, 0)) (zB ax.out) hb)
        have n8_ := Aside0.mk (below_step (by repeat (first | (with_reducible first | exact HB.out | apply pA | apply pN | apply pD | refine pS ?_ aA.out | refine pS ?_ aB.out | refine pS ?_ aG.out | refine pS ?_ aL.out | refine pS ?_ aQ.out) | exact HB.out)) hb)
        clear al
        clear ae
        clear ad
        clear af
        clear ax
        clear HB
        have aH := n0_
        have aI := n1_
        have aJ := n2_
        have al := n3_
        have ae := n4_
        have ad := n5_
        have af := n6_
        have ax := n7_
        have HB := n8_
        clear n0_ n1_ n2_ n3_ n4_ n5_ n6_ n7_ n8_
        (try clear hb)
        (try clear hb2)
        (try clear hk)
        (try clear hi)
        (try clear ho0)
        (try clear ho1)
        (try clear ho2)
        refine hK.out _ _ ⟨(blk_cell ae.out 0).trans rfl, (blk_cell ae.out 1).trans rfl, (blk_cell ae.out 2).trans rfl, (blk_cell ae.out 3).trans rfl, (blk_cell af.out 0).trans rfl, (blk_cell af.out 1).trans rfl, (blk_cell af.out 2).trans rfl, (blk_cell ad.out 0).trans rfl, (blk_cell ad.out 1).trans rfl, (blk_cell ad.out 2).trans rfl, (blk_cell ad.out 3).trans rfl, (blk_cell ad.out 4).trans rfl, (blk_cell ad.out 5).trans rfl⟩ (fun hHeld => ?_)
        clear hK K
        refine norm_ (a' := ?_) ?_ ?_
        rotate_left
        ·show Act.put _ (some 60) _ = _
         simp only [Act.put, sT, s0, s1, i64_w, i32_w]
         rfl
        refine pure_ (i := 6) (N := some 54) (v := ?_) (a' := ?_) #[oI, oI, oI, oI, oI, oI, oI, oO, oO, oI, oO, oO] rfl rfl (any_of HT_.out (by kernel_rfl)) (fun _ _ _ h => h) (Or.inl ⟨by rfl, ?_⟩) ?_ ?_
        rotate_left
        ·intro w'
         go_simp
         with_reducible rfl
        rotate_left
        ·simp only [Act.put, sT, s0, s1, i64_w, i32_w]
         rfl
        refine pure_ (i := 7) (N := some 61) (v := ?_) (a' := ?_) #[oI, oI, oI, oI, oI, oI, oI, oI, oO, oI, oO, oO] rfl rfl (any_of HT_.out (by kernel_rfl)) (fun _ _ _ h => h) (Or.inl ⟨by rfl, ?_⟩) ?_ ?_
        rotate_left
        ·intro w'
         go_simp
         with_reducible rfl
        rotate_left
        ·simp only [Act.put, sT, s0, s1, i64_w, i32_w]
         rfl
        refine pure_ (i := 8) (N := some 62) (v := ?_) (a' := ?_) #[oI, oI, oI, oI, oI, oI, oI, oI, oI, oI, oO, oO] rfl rfl (any_of HT_.out (by kernel_rfl)) (fun _ _ _ h => h) (Or.inl ⟨by rfl, ?_⟩) ?_ ?_
        rotate_left
        ·intro w'
         go_simp
         with_reducible rfl
        rotate_left
        ·simp only [Act.put, sT, s0, s1, i64_w, i32_w]
         rfl
        exact norm_ (by simp only [putAll, Act.put, sT, s0, s1]) (hCont (v448, v451, v454, ag) _ ⟨hHeld, (zV aH.out), (zV aI.out), (zV aJ.out), (zB al.out), (zB ae.out), (zB ad.out), (zB af.out), (zB ax.out), bi.out, aQ.out, bG.out, bL.out, bx.out, bH.out, bv.out, bM.out, bA.out, bN.out, (by repeat (first | (with_reducible first | exact HB.out | apply pA | apply pN | apply pD | refine pS ?_ aA.out | refine pS ?_ aB.out | refine pS ?_ aG.out | refine pS ?_ aL.out | refine pS ?_ aQ.out) | exact HB.out))⟩)
      rintro ⟨v448, v451, v454, ag⟩ w50 ⟨hS_, h0_, h1_, h2_, h3_, h4_, h5_, h6_, h7_, h8_, h9_, h10_, h11_, h12_, h13_, h14_, h15_, h16_, h17_, h18_⟩
      have n0_ : Aside0 (Kd.V k51 51 w50 w.heap.size (fun k_ => k_ ≠ ao ∧ k_ ≠ aj ∧ k_ ≠ ah ∧ k_ ≠ ai ∧ k_ ≠ ag) v448 aF) := ⟨h0_⟩
      have n1_ : Aside0 (Kd.V k56 56 w50 w.heap.size (fun k_ => k_ ≠ ao ∧ k_ ≠ aj ∧ k_ ≠ ah ∧ k_ ≠ ai ∧ k_ ≠ ag) v451 aS) := ⟨h1_⟩
      have n2_ : Aside0 (Kd.V k68 68 w50 w.heap.size (fun k_ => k_ ≠ ao ∧ k_ ≠ aj ∧ k_ ≠ ah ∧ k_ ≠ ai ∧ k_ ≠ ag) v454 aT) := ⟨h2_⟩
      have n3_ : Aside0 (w50.heap[ao]? = some (.cells #[.int .i64 am, .slice (some ap) aa.length aq, .slice ar ak.length au, .slice av an.length aw, .int .i64 ab, .int .i64 aN, .int .i64 aO, .int .u8 aK] 48 (0, 0))) := ⟨h3_⟩
      have n4_ : Aside0 (w50.heap[aj]? = some (.cells #[.int .i64 am, .slice (some ap) aa.length aq, .slice ar ak.length au, .slice av an.length aw] 46 (0, 0))) := ⟨h4_⟩
      have n5_ : Aside0 (w50.heap[ah]? = some (.cells #[.int .i64 ((rd_T51 aa ab).f0), .int .i64 ((rd_T51 aa ab).f1), .int .u32 ((rd_T51 aa ab).f2), .string ((rd_T51 aa ab).f3), .int .u64 ((rd_T51 aa ab).f4), .int .u64 ((rd_T51 aa ab).f5)] 51 (0, 0))) := ⟨h5_⟩
      have n6_ : Aside0 (w50.heap[ai]? = some (.cells #[.int .u64 az, .int .u64 aD, .int .i64 aE] 24 (0, 0))) := ⟨h6_⟩
      have n7_ : Aside0 (w50.heap[ag]? = some (.cells #[.int .i64 0, .slice none 0 0, .slice none 0 0, .slice none 0 0] 46 (0, 0))) := ⟨h7_⟩
      have n8_ : Aside0 (w.heap.size ≤ ag) := ⟨h8_⟩
      have n9_ : Aside0 (w.heap.size ≤ ag) := ⟨h9_⟩
      have n10_ : Aside0 (ao ≠ ag) := ⟨h10_⟩
      have n11_ : Aside0 (ag ≠ ao) := ⟨h11_⟩
      have n12_ : Aside0 (aj ≠ ag) := ⟨h12_⟩
      have n13_ : Aside0 (ag ≠ aj) := ⟨h13_⟩
      have n14_ : Aside0 (ah ≠ ag) := ⟨h14_⟩
      have n15_ : Aside0 (ag ≠ ah) := ⟨h15_⟩
      have n16_ : Aside0 (ai ≠ ag) := ⟨h16_⟩
      have n17_ : Aside0 (ag ≠ ai) := ⟨h17_⟩
      have n18_ : Aside0 (Below w.heap.size w w50) := ⟨h18_⟩
      clear al
      clear ae
      clear ad
      clear af
      clear HB
      clear h0_ h1_ h2_ h3_ h4_ h5_ h6_ h7_ h8_ h9_ h10_ h11_ h12_ h13_ h14_ h15_ h16_ h17_ h18_
      have aH := n0_
      have aI := n1_
      have aJ := n2_
      have al := n3_
      have ae := n4_
      have ad := n5_
      have af := n6_
      have ax := n7_
      have bi := n8_
      have aQ := n9_
      have bG := n10_
      have bL := n11_
      have bx := n12_
      have bH := n13_
      have bv := n14_
      have bM := n15_
      have bA := n16_
      have bN := n17_
      have HB := n18_
      clear n0_ n1_ n2_ n3_ n4_ n5_ n6_ n7_ n8_ n9_ n10_ n11_ n12_ n13_ n14_ n15_ n16_ n17_ n18_
      have hHeld : w50.cell? ⟨aj, 0, none⟩ = some (.int .i64 am) ∧ w50.cell? ⟨aj, 1, none⟩ = some (.slice (some ap) aa.length aq) ∧ w50.cell? ⟨aj, 2, none⟩ = some (.slice ar ak.length au) ∧ w50.cell? ⟨aj, 3, none⟩ = some (.slice av an.length aw) ∧ w50.cell? ⟨ai, 0, none⟩ = some (.int .u64 az) ∧ w50.cell? ⟨ai, 1, none⟩ = some (.int .u64 aD) ∧ w50.cell? ⟨ai, 2, none⟩ = some (.int .i64 aE) ∧ w50.cell? ⟨ah, 0, none⟩ = some (.int .i64 ((rd_T51 aa ab).f0)) ∧ w50.cell? ⟨ah, 1, none⟩ = some (.int .i64 ((rd_T51 aa ab).f1)) ∧ w50.cell? ⟨ah, 2, none⟩ = some (.int .u32 ((rd_T51 aa ab).f2)) ∧ w50.cell? ⟨ah, 3, none⟩ = some (.string ((rd_T51 aa ab).f3)) ∧ w50.cell? ⟨ah, 4, none⟩ = some (.int .u64 ((rd_T51 aa ab).f4)) ∧ w50.cell? ⟨ah, 5, none⟩ = some (.int .u64 ((rd_T51 aa ab).f5)) := hS_
      obtain ⟨bk, bj, d7⟩ := Kd.V_slice aH.out
      (first | subst d7 | (injection d7 with f1_ f2_ f3_; have f4_ := f1_.symm; have f5_ := f3_.symm; clear f1_ f2_ f3_; subst f4_; subst f5_))
      obtain ⟨bl, bm, d8⟩ := Kd.V_slice aI.out
      (first | subst d8 | (injection d8 with f1_ f2_ f3_; have f4_ := f1_.symm; have f5_ := f3_.symm; clear f1_ f2_ f3_; subst f4_; subst f5_))
      obtain ⟨bn, bo, d9⟩ := Kd.V_slice aJ.out
      (first | subst d9 | (injection d9 with f1_ f2_ f3_; have f4_ := f1_.symm; have f5_ := f3_.symm; clear f1_ f2_ f3_; subst f4_; subst f5_))
      refine norm_ (a' := ?_) ?_ ?_
      rotate_left
      ·simp only [putAll, Act.put, sT, s0, s1]
       rfl
      refine one_ (i := 10) (N := none) #[oI, oI, oI, oI, oI, oI, oI, oI, oI, oI, oI, oO] rfl rfl (one_of HT_.out (by kernel_rfl)) (by decide) (fun K hK => ?_)
      have hs51 : w50.cell? ⟨ag, 0, none⟩ = some (.int .i64 0) := (blk_cell ax.out 0).trans rfl
      have hfs51 := blk_frozen ax.out 0
      have hns51_0 := bG.out
      have hns51_1 := bx.out
      have hns51_2 := bv.out
      have hns51_3 := bA.out
      have hms51_0 := bL.out
      have hms51_1 := bH.out
      have hms51_2 := bM.out
      have hms51_3 := bN.out
      have hs53 : w50.cell? ⟨ag, 1, none⟩ = some (.slice none 0 0) := (blk_cell ax.out 1).trans rfl
      have hfs53 := blk_frozen ax.out 1
      have hns53_0 := bG.out
      have hns53_1 := bx.out
      have hns53_2 := bv.out
      have hns53_3 := bA.out
      have hms53_0 := bL.out
      have hms53_1 := bH.out
      have hms53_2 := bM.out
      have hms53_3 := bN.out
      have hs55 : w50.cell? ⟨ag, 2, none⟩ = some (.slice none 0 0) := (blk_cell ax.out 2).trans rfl
      have hfs55 := blk_frozen ax.out 2
      have hns55_0 := bG.out
      have hns55_1 := bx.out
      have hns55_2 := bv.out
      have hns55_3 := bA.out
      have hms55_0 := bL.out
      have hms55_1 := bH.out
      have hms55_2 := bM.out
      have hms55_3 := bN.out
      have hs57 : w50.cell? ⟨ag, 3, none⟩ = some (.slice none 0 0) := (blk_cell ax.out 3).trans rfl
      have hfs57 := blk_frozen ax.out 3
      have hns57_0 := bG.out
      have hns57_1 := bx.out
      have hns57_2 := bv.out
      have hns57_3 := bA.out
      have hms57_0 := bL.out
      have hms57_1 := bH.out
      have hms57_2 := bM.out
      have hms57_3 := bN.out
      refine skip_ (w1 := ?_) (by rfl) rfl ?_ ?_
      rotate_left
      ·go_simp
       rfl
      refine hK.out _ _ ⟨(fC bx.out hHeld.1), (fC bx.out hHeld.2.1), (fC bx.out hHeld.2.2.1), (fC bx.out hHeld.2.2.2.1), (fC bA.out hHeld.2.2.2.2.1), (fC bA.out hHeld.2.2.2.2.2.1), (fC bA.out hHeld.2.2.2.2.2.2.1), (fC bv.out hHeld.2.2.2.2.2.2.2.1), (fC bv.out hHeld.2.2.2.2.2.2.2.2.1), (fC bv.out hHeld.2.2.2.2.2.2.2.2.2.1), (fC bv.out hHeld.2.2.2.2.2.2.2.2.2.2.1), (fC bv.out hHeld.2.2.2.2.2.2.2.2.2.2.2.1), (fC bv.out hHeld.2.2.2.2.2.2.2.2.2.2.2.2)⟩ (fun hHeld => ?_)
      clear hK K
      refine pure_ (i := 11) (N := some 12) (v := ?_) (a' := ?_) #[oI, oI, oI, oI, oI, oI, oI, oI, oI, oI, oI, oI] rfl rfl (any_of HT_.out (by kernel_rfl)) (fun _ _ _ h => h) (Or.inl ⟨by rfl, ?_⟩) ?_ ?_
      rotate_left
      ·intro w'
       go_simp
       with_reducible rfl
      rotate_left
      ·simp only [Act.put, sT, s0, s1, i64_w, i32_w]
       rfl
      refine done_ (done_of HT_.out (by kernel_rfl)) ?_
      try go_wp2
      have n0_ : Aside0 (Kd.V k51 51 ((((w50.setCell ⟨ag, 0, none⟩ (.int .i64 bb)).setCell ⟨ag, 1, none⟩ (.slice bk aF.length bj)).setCell ⟨ag, 2, none⟩ (.slice bl aS.length bm)).setCell ⟨ag, 3, none⟩ (.slice bn aT.length bo)) w.heap.size (fun k_ => k_ ≠ ao ∧ k_ ≠ aj ∧ k_ ≠ ah ∧ k_ ≠ ai ∧ k_ ≠ ag) (.slice bk aF.length bj) aF) := ⟨(fV aH.out (fun k_ hk => (⟨hk, hk.2.2.2.2⟩ : _ ∧ k_ ≠ ag)) (fun _ hk => ⟨hk.1.1, ⟨hk.1.2.1, ⟨hk.1.2.2.1, ⟨hk.1.2.2.2.1, hk.1.2.2.2.2⟩⟩⟩⟩))⟩
      have n1_ : Aside0 (Kd.V k56 56 ((((w50.setCell ⟨ag, 0, none⟩ (.int .i64 bb)).setCell ⟨ag, 1, none⟩ (.slice bk aF.length bj)).setCell ⟨ag, 2, none⟩ (.slice bl aS.length bm)).setCell ⟨ag, 3, none⟩ (.slice bn aT.length bo)) w.heap.size (fun k_ => k_ ≠ ao ∧ k_ ≠ aj ∧ k_ ≠ ah ∧ k_ ≠ ai ∧ k_ ≠ ag) (.slice bl aS.length bm) aS) := ⟨(fV aI.out (fun k_ hk => (⟨hk, hk.2.2.2.2⟩ : _ ∧ k_ ≠ ag)) (fun _ hk => ⟨hk.1.1, ⟨hk.1.2.1, ⟨hk.1.2.2.1, ⟨hk.1.2.2.2.1, hk.1.2.2.2.2⟩⟩⟩⟩))⟩
      have n2_ : Aside0 (Kd.V k68 68 ((((w50.setCell ⟨ag, 0, none⟩ (.int .i64 bb)).setCell ⟨ag, 1, none⟩ (.slice bk aF.length bj)).setCell ⟨ag, 2, none⟩ (.slice bl aS.length bm)).setCell ⟨ag, 3, none⟩ (.slice bn aT.length bo)) w.heap.size (fun k_ => k_ ≠ ao ∧ k_ ≠ aj ∧ k_ ≠ ah ∧ k_ ≠ ai ∧ k_ ≠ ag) (.slice bn aT.length bo) aT) := ⟨(fV aJ.out (fun k_ hk => (⟨hk, hk.2.2.2.2⟩ : _ ∧ k_ ≠ ag)) (fun _ hk => ⟨hk.1.1, ⟨hk.1.2.1, ⟨hk.1.2.2.1, ⟨hk.1.2.2.2.1, hk.1.2.2.2.2⟩⟩⟩⟩))⟩
      have n3_ : Aside0 (((((w50.setCell ⟨ag, 0, none⟩ (.int .i64 bb)).setCell ⟨ag, 1, none⟩ (.slice bk aF.length bj)).setCell ⟨ag, 2, none⟩ (.slice bl aS.length bm)).setCell ⟨ag, 3, none⟩ (.slice bn aT.length bo)).heap[ao]? = some (.cells #[.int .i64 am, .slice (some ap) aa.length aq, .slice ar ak.length au, .slice av an.length aw, .int .i64 ab, .int .i64 aN, .int .i64 aO, .int .u8 aK] 48 (0, 0))) := ⟨fB bG.out al.out⟩
      have n4_ : Aside0 (((((w50.setCell ⟨ag, 0, none⟩ (.int .i64 bb)).setCell ⟨ag, 1, none⟩ (.slice bk aF.length bj)).setCell ⟨ag, 2, none⟩ (.slice bl aS.length bm)).setCell ⟨ag, 3, none⟩ (.slice bn aT.length bo)).heap[aj]? = some (.cells #[.int .i64 am, .slice (some ap) aa.length aq, .slice ar ak.length au, .slice av an.length aw] 46 (0, 0))) := ⟨fB bx.out ae.out⟩
      have n5_ : Aside0 (((((w50.setCell ⟨ag, 0, none⟩ (.int .i64 bb)).setCell ⟨ag, 1, none⟩ (.slice bk aF.length bj)).setCell ⟨ag, 2, none⟩ (.slice bl aS.length bm)).setCell ⟨ag, 3, none⟩ (.slice bn aT.length bo)).heap[ah]? = some (.cells #[.int .i64 ((rd_T51 aa ab).f0), .int .i64 ((rd_T51 aa ab).f1), .int .u32 ((rd_T51 aa ab).f2), .string ((rd_T51 aa ab).f3), .int .u64 ((rd_T51 aa ab).f4), .int .u64 ((rd_T51 aa ab).f5)] 51 (0, 0))) := ⟨fB bv.out ad.out⟩
      have n6_ : Aside0 (((((w50.setCell ⟨ag, 0, none⟩ (.int .i64 bb)).setCell ⟨ag, 1, none⟩ (.slice bk aF.length bj)).setCell ⟨ag, 2, none⟩ (.slice bl aS.length bm)).setCell ⟨ag, 3, none⟩ (.slice bn aT.length bo)).heap[ai]? = some (.cells #[.int .u64 az, .int .u64 aD, .int .i64 aE] 24 (0, 0))) := ⟨fB bA.out af.out⟩
      have n7_ : Aside0 (((((w50.setCell ⟨ag, 0, none⟩ (.int .i64 bb)).setCell ⟨ag, 1, none⟩ (.slice bk aF.length bj)).setCell ⟨ag, 2, none⟩ (.slice bl aS.length bm)).setCell ⟨ag, 3, none⟩ (.slice bn aT.length bo)).heap[ag]? = some (.cells #[.int .i64 bb, .slice bk aF.length bj, .slice bl aS.length bm, .slice bn aT.length bo] 46 (0, 0))) := ⟨by (with_reducible repeat (first | refine qN ?_ _ | refine qD ?_ | refine qA ?_ _)); refine blk_put (cs := #[.int .i64 bb, .slice bk aF.length bj, .slice bl aS.length bm, .slice none 0 0]) ?_ 3 _ rfl; (with_reducible repeat (first | refine qN ?_ _ | refine qD ?_ | refine qA ?_ _)); refine blk_put (cs := #[.int .i64 bb, .slice bk aF.length bj, .slice none 0 0, .slice none 0 0]) ?_ 2 _ rfl; (with_reducible repeat (first | refine qN ?_ _ | refine qD ?_ | refine qA ?_ _)); refine blk_put (cs := #[.int .i64 bb, .slice none 0 0, .slice none 0 0, .slice none 0 0]) ?_ 1 _ rfl; (with_reducible repeat (first | refine qN ?_ _ | refine qD ?_ | refine qA ?_ _)); refine blk_put (cs := #[.int .i64 0, .slice none 0 0, .slice none 0 0, .slice none 0 0]) ?_ 0 _ rfl; (with_reducible repeat (first | refine qN ?_ _ | refine qD ?_ | refine qA ?_ _)); exact ax.out⟩
      have n8_ : Aside0 (Below w.heap.size w ((((w50.setCell ⟨ag, 0, none⟩ (.int .i64 bb)).setCell ⟨ag, 1, none⟩ (.slice bk aF.length bj)).setCell ⟨ag, 2, none⟩ (.slice bl aS.length bm)).setCell ⟨ag, 3, none⟩ (.slice bn aT.length bo))) := ⟨by repeat (first | (with_reducible first | exact HB.out | apply pA | apply pN | apply pD | refine pS ?_ aA.out | refine pS ?_ aB.out | refine pS ?_ aG.out | refine pS ?_ aL.out | refine pS ?_ aQ.out) | exact HB.out)⟩
      (try clear aH)
      (try clear aI)
      (try clear aJ)
      (try clear al)
      (try clear ae)
      (try clear ad)
      (try clear af)
      (try clear ax)
      (try clear HB)
      generalize ((((w50.setCell ⟨ag, 0, none⟩ (.int .i64 bb)).setCell ⟨ag, 1, none⟩ (.slice bk aF.length bj)).setCell ⟨ag, 2, none⟩ (.slice bl aS.length bm)).setCell ⟨ag, 3, none⟩ (.slice bn aT.length bo)) = w58 at n0_ n1_ n2_ n3_ n4_ n5_ n6_ n7_ n8_ ⊢
      have aH := n0_
      have aI := n1_
      have aJ := n2_
      have al := n3_
      have ae := n4_
      have ad := n5_
      have af := n6_
      have ax := n7_
      have HB := n8_
      clear n0_ n1_ n2_ n3_ n4_ n5_ n6_ n7_ n8_
      have n0_ := Aside0.mk (Kd.V_drew aH.out)
      have n1_ := Aside0.mk (Kd.V_drew aI.out)
      have n2_ := Aside0.mk (Kd.V_drew aJ.out)
      have n3_ := Aside0.mk (qD al.out)
      have n4_ := Aside0.mk (qD ae.out)
      have n5_ := Aside0.mk (qD ad.out)
      have n6_ := Aside0.mk (qD af.out)
      have n7_ := Aside0.mk (qD ax.out)
      have n8_ := Aside0.mk (pD HB.out)
      clear aH
      clear aI
      clear aJ
      clear al
      clear ae
      clear ad
      clear af
      clear ax
      clear HB
      have aH := n0_
      have aI := n1_
      have aJ := n2_
      have al := n3_
      have ae := n4_
      have ad := n5_
      have af := n6_
      have ax := n7_
      have HB := n8_
      clear n0_ n1_ n2_ n3_ n4_ n5_ n6_ n7_ n8_
      refine start_ (n := 14) (S := fun w' => w'.cell? ⟨aj, 0, none⟩ = some (.int .i64 am) ∧ w'.cell? ⟨aj, 1, none⟩ = some (.slice (some ap) aa.length aq) ∧ w'.cell? ⟨aj, 2, none⟩ = some (.slice ar ak.length au) ∧ w'.cell? ⟨aj, 3, none⟩ = some (.slice av an.length aw) ∧ w'.cell? ⟨ai, 0, none⟩ = some (.int .u64 az) ∧ w'.cell? ⟨ai, 1, none⟩ = some (.int .u64 aD) ∧ w'.cell? ⟨ai, 2, none⟩ = some (.int .i64 aE) ∧ w'.cell? ⟨ah, 0, none⟩ = some (.int .i64 ((rd_T51 aa ab).f0)) ∧ w'.cell? ⟨ah, 1, none⟩ = some (.int .i64 ((rd_T51 aa ab).f1)) ∧ w'.cell? ⟨ah, 2, none⟩ = some (.int .u32 ((rd_T51 aa ab).f2)) ∧ w'.cell? ⟨ah, 3, none⟩ = some (.string ((rd_T51 aa ab).f3)) ∧ w'.cell? ⟨ah, 4, none⟩ = some (.int .u64 ((rd_T51 aa ab).f4)) ∧ w'.cell? ⟨ah, 5, none⟩ = some (.int .u64 ((rd_T51 aa ab).f5))) (ds := []) #[oO, oO, oO, oO, oO, oO, oO, oO, oO, oO, oO, oO, oO, oO] (by kernel_rfl) rfl rfl ⟨(blk_cell ae.out 0).trans rfl, (blk_cell ae.out 1).trans rfl, (blk_cell ae.out 2).trans rfl, (blk_cell ae.out 3).trans rfl, (blk_cell af.out 0).trans rfl, (blk_cell af.out 1).trans rfl, (blk_cell af.out 2).trans rfl, (blk_cell ad.out 0).trans rfl, (blk_cell ad.out 1).trans rfl, (blk_cell ad.out 2).trans rfl, (blk_cell ad.out 3).trans rfl, (blk_cell ad.out 4).trans rfl, (blk_cell ad.out 5).trans rfl⟩ (fun hHeld => ?_); refine with_tabW portreevelaw17_MeterOps.tab12 portreevelaw17_MeterOps.bits12 (fun HT_ HW_ => ?_)
      generalize w58.drew = w59 at aH aI aJ al ae ad af ax HB hHeld ⊢
      refine pure_ (i := 2) (N := some 66) (v := ?_) (a' := ?_) #[oO, oO, oI, oO, oO, oO, oO, oO, oO, oO, oO, oO, oO, oO] rfl rfl (any_of HT_.out (by kernel_rfl)) (fun _ _ _ h => h) (Or.inl ⟨by rfl, ?_⟩) ?_ ?_
      rotate_left
      ·intro w'
       go_simp
       with_reducible rfl
      rotate_left
      ·simp only [Act.put, sT, s0, s1, i64_w, i32_w]
       rfl
      refine pure_ (i := 4) (N := some 68) (v := ?_) (a' := ?_) #[oO, oO, oI, oO, oI, oO, oO, oO, oO, oO, oO, oO, oO, oO] rfl rfl (any_of HT_.out (by kernel_rfl)) (fun _ _ _ h => h) (Or.inl ⟨by rfl, ?_⟩) ?_ ?_
      rotate_left
      ·intro w'
       go_simp
       with_reducible rfl
      rotate_left
      ·simp only [Act.put, sT, s0, s1, i64_w, i32_w]
       rfl
      refine pure_ (i := 5) (N := some 69) (v := ?_) (a' := ?_) #[oO, oO, oI, oO, oI, oI, oO, oO, oO, oO, oO, oO, oO, oO] rfl rfl (any_of HT_.out (by kernel_rfl)) (fun _ _ _ h => h) (Or.inl ⟨by rfl, ?_⟩) ?_ ?_
      rotate_left
      ·intro w'
       go_simp
       with_reducible rfl
      rotate_left
      ·simp only [Act.put, sT, s0, s1, i64_w, i32_w]
       rfl
      refine take_ (i := 0) (N := some 64) (v := ?_) (a' := ?_) #[oI, oO, oI, oO, oI, oI, oO, oO, oO, oO, oO, oO, oO, oO] rfl rfl (take_ofW HT_.out HW_.out (by kernel_rfl)) (fun _ _ _ h => h) (Or.inl ⟨by rfl, ?_⟩) hHeld ?_ ?_
      rotate_left
      ·rintro w' ⟨s0, s1, s2, s3, s4, s5, s6, s7, s8, s9, s10, s11, s12⟩
       go_simp
       with_reducible rfl
      rotate_left
      ·simp only [Act.put, sT, s0, s1, i64_w, i32_w]
       rfl
      refine take_ (i := 1) (N := some 65) (v := ?_) (a' := ?_) #[oI, oI, oI, oO, oI, oI, oO, oO, oO, oO, oO, oO, oO, oO] rfl rfl (take_ofW HT_.out HW_.out (by kernel_rfl)) (fun _ _ _ h => h) (Or.inl ⟨by rfl, ?_⟩) hHeld ?_ ?_
      rotate_left
      ·rintro w' ⟨s0, s1, s2, s3, s4, s5, s6, s7, s8, s9, s10, s11, s12⟩
       go_simp
       with_reducible rfl
      rotate_left
      ·simp only [Act.put, sT, s0, s1, i64_w, i32_w]
       rfl
      refine take_ (i := 3) (N := some 67) (v := ?_) (a' := ?_) #[oI, oI, oI, oI, oI, oI, oO, oO, oO, oO, oO, oO, oO, oO] rfl rfl (take_ofW HT_.out HW_.out (by kernel_rfl)) (fun _ _ _ h => h) (Or.inl ⟨by rfl, ?_⟩) hHeld ?_ ?_
      rotate_left
      ·rintro w' ⟨s0, s1, s2, s3, s4, s5, s6, s7, s8, s9, s10, s11, s12⟩
       go_simp
       with_reducible rfl
      rotate_left
      ·simp only [Act.put, sT, s0, s1, i64_w, i32_w]
       rfl
      refine join_ (σ := Value × Value × Value × Nat) 2 #[oI, oI, oI, oI, oI, oI, oI, oI, oI, oI, oI, oI, oO, oO] (fun s_ => [(70, .agg #[.int .i64 cf, .int .i64 cg, .int .i64 ch, .int .u32 ci, .string cj, .int .u64 ck, .int .u64 cl, .int .i64 cm, .int .i64 cn]), (71, .tuple #[.agg #[.int .i64 aP, s_.1, s_.2.1, s_.2.2.1], .int .i64 bY]), (13, .pointer (some ⟨s_.2.2.2, 0, none⟩)), (63, .tuple #[.agg #[.int .i64 aP, s_.1, s_.2.1, s_.2.2.1], .int .i64 bY]), (72, .agg #[.int .i64 aP, s_.1, s_.2.1, s_.2.2.1]), (73, .int .i64 bY)]) (fun s_ w' => (w'.cell? ⟨aj, 0, none⟩ = some (.int .i64 am) ∧ w'.cell? ⟨aj, 1, none⟩ = some (.slice (some ap) aa.length aq) ∧ w'.cell? ⟨aj, 2, none⟩ = some (.slice ar ak.length au) ∧ w'.cell? ⟨aj, 3, none⟩ = some (.slice av an.length aw) ∧ w'.cell? ⟨ai, 0, none⟩ = some (.int .u64 az) ∧ w'.cell? ⟨ai, 1, none⟩ = some (.int .u64 aD) ∧ w'.cell? ⟨ai, 2, none⟩ = some (.int .i64 aE) ∧ w'.cell? ⟨ah, 0, none⟩ = some (.int .i64 ((rd_T51 aa ab).f0)) ∧ w'.cell? ⟨ah, 1, none⟩ = some (.int .i64 ((rd_T51 aa ab).f1)) ∧ w'.cell? ⟨ah, 2, none⟩ = some (.int .u32 ((rd_T51 aa ab).f2)) ∧ w'.cell? ⟨ah, 3, none⟩ = some (.string ((rd_T51 aa ab).f3)) ∧ w'.cell? ⟨ah, 4, none⟩ = some (.int .u64 ((rd_T51 aa ab).f4)) ∧ w'.cell? ⟨ah, 5, none⟩ = some (.int .u64 ((rd_T51 aa ab).f5))) ∧ (Kd.V k51 51 w' w.heap.size (fun k_ => k_ ≠ ao ∧ k_ ≠ aj ∧ k_ ≠ ah ∧ k_ ≠ ai ∧ k_ ≠ ag ∧ k_ ≠ s_.2.2.2) (.slice bk aF.length bj) aF) ∧ (Kd.V k56 56 w' w.heap.size (fun k_ => k_ ≠ ao ∧ k_ ≠ aj ∧ k_ ≠ ah ∧ k_ ≠ ai ∧ k_ ≠ ag ∧ k_ ≠ s_.2.2.2) (.slice bl aS.length bm) aS) ∧ (Kd.V k68 68 w' w.heap.size (fun k_ => k_ ≠ ao ∧ k_ ≠ aj ∧ k_ ≠ ah ∧ k_ ≠ ai ∧ k_ ≠ ag ∧ k_ ≠ s_.2.2.2) (.slice bn aT.length bo) aT) ∧ (Kd.V k51 51 w' w.heap.size (fun k_ => k_ ≠ ao ∧ k_ ≠ aj ∧ k_ ≠ ah ∧ k_ ≠ ai ∧ k_ ≠ ag ∧ k_ ≠ s_.2.2.2) s_.1 aM) ∧ (Kd.V k56 56 w' w.heap.size (fun k_ => k_ ≠ ao ∧ k_ ≠ aj ∧ k_ ≠ ah ∧ k_ ≠ ai ∧ k_ ≠ ag ∧ k_ ≠ s_.2.2.2) s_.2.1 ay) ∧ (Kd.V k68 68 w' w.heap.size (fun k_ => k_ ≠ ao ∧ k_ ≠ aj ∧ k_ ≠ ah ∧ k_ ≠ ai ∧ k_ ≠ ag ∧ k_ ≠ s_.2.2.2) s_.2.2.1 aR) ∧ (w'.heap[ao]? = some (.cells #[.int .i64 am, .slice (some ap) aa.length aq, .slice ar ak.length au, .slice av an.length aw, .int .i64 ab, .int .i64 aN, .int .i64 aO, .int .u8 aK] 48 (0, 0))) ∧ (w'.heap[aj]? = some (.cells #[.int .i64 am, .slice (some ap) aa.length aq, .slice ar ak.length au, .slice av an.length aw] 46 (0, 0))) ∧ (w'.heap[ah]? = some (.cells #[.int .i64 ((rd_T51 aa ab).f0), .int .i64 ((rd_T51 aa ab).f1), .int .u32 ((rd_T51 aa ab).f2), .string ((rd_T51 aa ab).f3), .int .u64 ((rd_T51 aa ab).f4), .int .u64 ((rd_T51 aa ab).f5)] 51 (0, 0))) ∧ (w'.heap[ai]? = some (.cells #[.int .u64 az, .int .u64 aD, .int .i64 aE] 24 (0, 0))) ∧ (w'.heap[ag]? = some (.cells #[.int .i64 bb, .slice bk aF.length bj, .slice bl aS.length bm, .slice bn aT.length bo] 46 (0, 0))) ∧ (w'.heap[s_.2.2.2]? = some (.cells #[.int .i64 0, .slice none 0 0, .slice none 0 0, .slice none 0 0] 46 (0, 0))) ∧ (w.heap.size ≤ s_.2.2.2) ∧ (w.heap.size ≤ s_.2.2.2) ∧ (ao ≠ s_.2.2.2) ∧ (s_.2.2.2 ≠ ao) ∧ (aj ≠ s_.2.2.2) ∧ (s_.2.2.2 ≠ aj) ∧ (ah ≠ s_.2.2.2) ∧ (s_.2.2.2 ≠ ah) ∧ (ai ≠ s_.2.2.2) ∧ (s_.2.2.2 ≠ ai) ∧ (ag ≠ s_.2.2.2) ∧ (s_.2.2.2 ≠ ag) ∧ (Below w.heap.size w w')) ?_ ?_
      rotate_left
      ·intro hCont
       refine two_ (i := 6) (j := 11) (Ni := some 70) (Nj := some 13) #[oI, oI, oI, oI, oI, oI, oI, oO, oO, oO, oO, oO, oO, oO] #[oI, oI, oI, oI, oI, oI, oO, oO, oO, oO, oO, oI, oO, oO] rfl rfl rfl rfl (two_of HT_.out (by kernel_rfl)) (by decide) (by decide) (fun K hK => ?_) (fun K hK => ?_)
       ·skip
        refine goes_ Try.func20 (by kernel_rfl) rfl #[.agg #[.int .u64 az, .int .u64 aD, .int .i64 aE], .int .i64 ((rd_T51 aa ab).f0), .int .i64 (wrap64 (aK))] (by rfl) rfl rfl (by (try simp only [List.map_toArray, List.map_cons, List.map_nil]); first | done | rfl | (simp only [List.length_drop, List.length_take]; rfl)) ?_
        with_reducible refine (meter_Stop.calls az aD aE ((rd_T51 aa ab).f0) (wrap64 (aK)) cf cg ch ci cj ck cl cm cn _ ep.out).mono ?_
        rintro e w60 ⟨rfl, hb⟩
        refine ⟨_, rfl, ?_⟩
        have n0_ := Aside0.mk (Kd.V_below (zV aH.out) hb)
        have n1_ := Aside0.mk (Kd.V_below (zV aI.out) hb)
        have n2_ := Aside0.mk (Kd.V_below (zV aJ.out) hb)
        have n3_ := Aside0.mk (blk_below (g := ao) (o := .cells #[.int .i64 am, .slice (some ap) aa.length aq, .slice ar ak.length au, .slice av an.length aw, .int .i64 ab, .int .i64 aN, .int .i64 aO, .int .u8 aK] 48 (0, 0)) (zB al.out) hb)
        have n4_ := Aside0.mk (blk_below (g := aj) (o := .cells #[.int .i64 am, .slice (some ap) aa.length aq, .slice ar ak.length au, .slice av an.length aw] 46 (0, 0)) (zB ae.out) hb)
        have n5_ := Aside0.mk (blk_below (g := ah) (o := .cells #[.int .i64 ((rd_T51 aa ab).f0), .int .i64 ((rd_T51 aa ab).f1), .int .u32 ((rd_T51 aa ab).f2), .string ((rd_T51 aa ab).f3), .int .u64 ((rd_T51 aa ab).f4), .int .u64 ((rd_T51 aa ab).f5)] 51 (0, 0)) (zB ad.out) hb)
        have n6_ := Aside0.mk (blk_below (g := ai) (o := .cells #[.int .u64 az, .int .u64 aD, .int .i64 aE] 24 (0, 0)) (zB af.out) hb)
        have n7_ := Aside0.mk (blk_below (g := ag) (o := .cells #[.int .i64 bb, .slice bk aF.length bj, .slice bl aS.length bm, .slice bn aT.length bo] 46 (0, 0)) (zB ax.out) hb)
        have n8_ := Aside0.mk (below_step (by repeat (first | (with_reducible first | exact HB.out | apply pA | apply pN | apply pD | refine pS ?_ aA.out | refine pS ?_ aB.out | refine pS ?_ aG.out | refine pS ?_ aL.out | refine pS ?_ aQ.out) | exact HB.out)) hb)
        clear aH
        clear aI
        clear aJ
        clear al
        clear ae
        clear ad
        clear af
        clear ax
        clear HB
        have aH := n0_
        have aI := n1_
        have aJ := n2_
        have al := n3_
        have ae := n4_
        have ad := n5_
        have af := n6_
        have ax := n7_
        have HB := n8_
        clear n0_ n1_ n2_ n3_ n4_ n5_ n6_ n7_ n8_
        (try clear hb)
        (try clear hb2)
        (try clear hk)
        (try clear hi)
        refine hK.out _ _ ⟨(blk_cell ae.out 0).trans rfl, (blk_cell ae.out 1).trans rfl, (blk_cell ae.out 2).trans rfl, (blk_cell ae.out 3).trans rfl, (blk_cell af.out 0).trans rfl, (blk_cell af.out 1).trans rfl, (blk_cell af.out 2).trans rfl, (blk_cell ad.out 0).trans rfl, (blk_cell ad.out 1).trans rfl, (blk_cell ad.out 2).trans rfl, (blk_cell ad.out 3).trans rfl, (blk_cell ad.out 4).trans rfl, (blk_cell ad.out 5).trans rfl⟩ (fun hHeld => ?_)
        clear hK K
        refine norm_ (a' := ?_) ?_ ?_
        rotate_left
        ·show Act.put _ (some 70) _ = _
         simp only [Act.put, sT, s0, s1, i64_w, i32_w]
         rfl
        refine two_ (i := 7) (j := 11) (Ni := some 71) (Nj := some 13) #[oI, oI, oI, oI, oI, oI, oI, oI, oO, oO, oO, oO, oO, oO] #[oI, oI, oI, oI, oI, oI, oI, oO, oO, oO, oO, oI, oO, oO] rfl rfl rfl rfl (two_of HT_.out (by kernel_rfl)) (by decide) (by decide) (fun K hK => ?_) (fun K hK => ?_)
        ·skip
         refine goes_ Try.func23 (by kernel_rfl) rfl #[.agg #[.int .i64 am, .slice (some ap) aa.length aq, .slice ar ak.length au, .slice av an.length aw], .agg #[.int .i64 cf, .int .i64 cg, .int .i64 ch, .int .u32 ci, .string cj, .int .u64 ck, .int .u64 cl, .int .i64 cm, .int .i64 cn]] (by rfl) rfl rfl (by (try simp only [List.map_toArray, List.map_cons, List.map_nil]); first | done | rfl | (simp only [List.length_drop, List.length_take]; rfl)) ?_
         with_reducible refine (portreeveref04_Apply.calls bu am (fun k_ => k_ < w.heap.size) _ _ aa (fun k_ => k_ < w.heap.size) _ _ ak (fun k_ => k_ < w.heap.size) _ _ an cf cg ch ci cj ck cl cm cn aP aM ay aR bY _ ?side1 ?side2 ?side3 d6.out).mono ?_
         (case side1 => exact Kd.V_mk HC0_1.out (Kd.F_below (Kd.C_F k51_heap bX.out) (by repeat (first | (with_reducible first | exact HB.out | apply pA | apply pN | apply pD | refine pS ?_ aA.out | refine pS ?_ aB.out | refine pS ?_ aG.out | refine pS ?_ aL.out | refine pS ?_ aQ.out) | exact HB.out))))
         (case side2 => exact Kd.V_mk HC0_2.out (Kd.F_below (Kd.C_F k56_heap bZ.out) (by repeat (first | (with_reducible first | exact HB.out | apply pA | apply pN | apply pD | refine pS ?_ aA.out | refine pS ?_ aB.out | refine pS ?_ aG.out | refine pS ?_ aL.out | refine pS ?_ aQ.out) | exact HB.out))))
         (case side3 => exact Kd.V_mk HC0_3.out (Kd.F_below (Kd.C_F k68_heap b0.out) (by repeat (first | (with_reducible first | exact HB.out | apply pA | apply pN | apply pD | refine pS ?_ aA.out | refine pS ?_ aB.out | refine pS ?_ aG.out | refine pS ?_ aL.out | refine pS ?_ aQ.out) | exact HB.out))))
         rintro e w61 ⟨v469, v472, v475, rfl, ho0, ho1, ho2, hb⟩
         refine ⟨_, rfl, ?_⟩
         have n0_ := Aside0.mk (Kd.V_below (zV aH.out) hb)
         have n1_ := Aside0.mk (Kd.V_below (zV aI.out) hb)
         have n2_ := Aside0.mk (Kd.V_below (zV aJ.out) hb)
         have n3_ := Aside0.mk (Kd.V_lower (Kd.V_mono (ok' := fun k_ => k_ ≠ ao ∧ k_ ≠ aj ∧ k_ ≠ ah ∧ k_ ≠ ai ∧ k_ ≠ ag) ho0 (fun k_ hk_ => ⟨Or.elim hk_ (fun hs_ => Or.elim hs_ (fun hs_ => fun e_ => Nat.not_le.2 hs_ (by rw [e_]; exact be.out)) (fun hs_ => Or.elim hs_ (fun hs_ => fun e_ => Nat.not_le.2 hs_ (by rw [e_]; exact be.out)) (fun hs_ => fun e_ => Nat.not_le.2 hs_ (by rw [e_]; exact be.out)))) (fun hn_ => (Kd.freshB (g := ao) (o := .cells #[.int .i64 am, .slice (some ap) aa.length aq, .slice ar ak.length au, .slice av an.length aw, .int .i64 ab, .int .i64 aN, .int .i64 aO, .int .u8 aK] 48 (0, 0)) (zB al.out) k_ hn_)), Or.elim hk_ (fun hs_ => Or.elim hs_ (fun hs_ => fun e_ => Nat.not_le.2 hs_ (by rw [e_]; exact bf.out)) (fun hs_ => Or.elim hs_ (fun hs_ => fun e_ => Nat.not_le.2 hs_ (by rw [e_]; exact bf.out)) (fun hs_ => fun e_ => Nat.not_le.2 hs_ (by rw [e_]; exact bf.out)))) (fun hn_ => (Kd.freshB (g := aj) (o := .cells #[.int .i64 am, .slice (some ap) aa.length aq, .slice ar ak.length au, .slice av an.length aw] 46 (0, 0)) (zB ae.out) k_ hn_)), Or.elim hk_ (fun hs_ => Or.elim hs_ (fun hs_ => fun e_ => Nat.not_le.2 hs_ (by rw [e_]; exact bg.out)) (fun hs_ => Or.elim hs_ (fun hs_ => fun e_ => Nat.not_le.2 hs_ (by rw [e_]; exact bg.out)) (fun hs_ => fun e_ => Nat.not_le.2 hs_ (by rw [e_]; exact bg.out)))) (fun hn_ => (Kd.freshB (g := ah) (o := .cells #[.int .i64 ((rd_T51 aa ab).f0), .int .i64 ((rd_T51 aa ab).f1), .int .u32 ((rd_T51 aa ab).f2), .string ((rd_T51 aa ab).f3), .int .u64 ((rd_T51 aa ab).f4), .int .u64 ((rd_T51 aa ab).f5)] 51 (0, 0)) (zB ad.out) k_ hn_)), Or.elim hk_ (fun hs_ => Or.elim hs_ (fun hs_ => fun e_ => Nat.not_le.2 hs_ (by rw [e_]; exact bh.out)) (fun hs_ => Or.elim hs_ (fun hs_ => fun e_ => Nat.not_le.2 hs_ (by rw [e_]; exact bh.out)) (fun hs_ => fun e_ => Nat.not_le.2 hs_ (by rw [e_]; exact bh.out)))) (fun hn_ => (Kd.freshB (g := ai) (o := .cells #[.int .u64 az, .int .u64 aD, .int .i64 aE] 24 (0, 0)) (zB af.out) k_ hn_)), Or.elim hk_ (fun hs_ => Or.elim hs_ (fun hs_ => fun e_ => Nat.not_le.2 hs_ (by rw [e_]; exact bi.out)) (fun hs_ => Or.elim hs_ (fun hs_ => fun e_ => Nat.not_le.2 hs_ (by rw [e_]; exact bi.out)) (fun hs_ => fun e_ => Nat.not_le.2 hs_ (by rw [e_]; exact bi.out)))) (fun hn_ => (Kd.freshB (g := ag) (o := .cells #[.int .i64 bb, .slice bk aF.length bj, .slice bl aS.length bm, .slice bn aT.length bo] 46 (0, 0)) (zB ax.out) k_ hn_))⟩)) (below_size (by repeat (first | (with_reducible first | exact HB.out | apply pA | apply pN | apply pD | refine pS ?_ aA.out | refine pS ?_ aB.out | refine pS ?_ aG.out | refine pS ?_ aL.out | refine pS ?_ aQ.out) | exact HB.out))))
         have n4_ := Aside0.mk (Kd.V_lower (Kd.V_mono (ok' := fun k_ => k_ ≠ ao ∧ k_ ≠ aj ∧ k_ ≠ ah ∧ k_ ≠ ai ∧ k_ ≠ ag) ho1 (fun k_ hk_ => ⟨Or.elim hk_ (fun hs_ => Or.elim hs_ (fun hs_ => fun e_ => Nat.not_le.2 hs_ (by rw [e_]; exact be.out)) (fun hs_ => Or.elim hs_ (fun hs_ => fun e_ => Nat.not_le.2 hs_ (by rw [e_]; exact be.out)) (fun hs_ => fun e_ => Nat.not_le.2 hs_ (by rw [e_]; exact be.out)))) (fun hn_ => (Kd.freshB (g := ao) (o := .cells #[.int .i64 am, .slice (some ap) aa.length aq, .slice ar ak.length au, .slice av an.length aw, .int .i64 ab, .int .i64 aN, .int .i64 aO, .int .u8 aK] 48 (0, 0)) (zB al.out) k_ hn_)), Or.elim hk_ (fun hs_ => Or.elim hs_ (fun hs_ => fun e_ => Nat.not_le.2 hs_ (by rw [e_]; exact bf.out)) (fun hs_ => Or.elim hs_ (fun hs_ => fun e_ => Nat.not_le.2 hs_ (by rw [e_]; exact bf.out)) (fun hs_ => fun e_ => Nat.not_le.2 hs_ (by rw [e_]; exact bf.out)))) (fun hn_ => (Kd.freshB (g := aj) (o := .cells #[.int .i64 am, .slice (some ap) aa.length aq, .slice ar ak.length au, .slice av an.length aw] 46 (0, 0)) (zB ae.out) k_ hn_)), Or.elim hk_ (fun hs_ => Or.elim hs_ (fun hs_ => fun e_ => Nat.not_le.2 hs_ (by rw [e_]; exact bg.out)) (fun hs_ => Or.elim hs_ (fun hs_ => fun e_ => Nat.not_le.2 hs_ (by rw [e_]; exact bg.out)) (fun hs_ => fun e_ => Nat.not_le.2 hs_ (by rw [e_]; exact bg.out)))) (fun hn_ => (Kd.freshB (g := ah) (o := .cells #[.int .i64 ((rd_T51 aa ab).f0), .int .i64 ((rd_T51 aa ab).f1), .int .u32 ((rd_T51 aa ab).f2), .string ((rd_T51 aa ab).f3), .int .u64 ((rd_T51 aa ab).f4), .int .u64 ((rd_T51 aa ab).f5)] 51 (0, 0)) (zB ad.out) k_ hn_)), Or.elim hk_ (fun hs_ => Or.elim hs_ (fun hs_ => fun e_ => Nat.not_le.2 hs_ (by rw [e_]; exact bh.out)) (fun hs_ => Or.elim hs_ (fun hs_ => fun e_ => Nat.not_le.2 hs_ (by rw [e_]; exact bh.out)) (fun hs_ => fun e_ => Nat.not_le.2 hs_ (by rw [e_]; exact bh.out)))) (fun hn_ => (Kd.freshB (g := ai) (o := .cells #[.int .u64 az, .int .u64 aD, .int .i64 aE] 24 (0, 0)) (zB af.out) k_ hn_)), Or.elim hk_ (fun hs_ => Or.elim hs_ (fun hs_ => fun e_ => Nat.not_le.2 hs_ (by rw [e_]; exact bi.out)) (fun hs_ => Or.elim hs_ (fun hs_ => fun e_ => Nat.not_le.2 hs_ (by rw [e_]; exact bi.out)) (fun hs_ => fun e_ => Nat.not_le.2 hs_ (by rw [e_]; exact bi.out)))) (fun hn_ => (Kd.freshB (g := ag) (o := .cells #[.int .i64 bb, .slice bk aF.length bj, .slice bl aS.length bm, .slice bn aT.length bo] 46 (0, 0)) (zB ax.out) k_ hn_))⟩)) (below_size (by repeat (first | (with_reducible first | exact HB.out | apply pA | apply pN | apply pD | refine pS ?_ aA.out | refine pS ?_ aB.out | refine pS ?_ aG.out | refine pS ?_ aL.out | refine pS ?_ aQ.out) | exact HB.out))))
         have n5_ := Aside0.mk (Kd.V_lower (Kd.V_mono (ok' := fun k_ => k_ ≠ ao ∧ k_ ≠ aj ∧ k_ ≠ ah ∧ k_ ≠ ai ∧ k_ ≠ ag) ho2 (fun k_ hk_ => ⟨Or.elim hk_ (fun hs_ => Or.elim hs_ (fun hs_ => fun e_ => Nat.not_le.2 hs_ (by rw [e_]; exact be.out)) (fun hs_ => Or.elim hs_ (fun hs_ => fun e_ => Nat.not_le.2 hs_ (by rw [e_]; exact be.out)) (fun hs_ => fun e_ => Nat.not_le.2 hs_ (by rw [e_]; exact be.out)))) (fun hn_ => (Kd.freshB (g := ao) (o := .cells #[.int .i64 am, .slice (some ap) aa.length aq, .slice ar ak.length au, .slice av an.length aw, .int .i64 ab, .int .i64 aN, .int .i64 aO, .int .u8 aK] 48 (0, 0)) (zB al.out) k_ hn_)), Or.elim hk_ (fun hs_ => Or.elim hs_ (fun hs_ => fun e_ => Nat.not_le.2 hs_ (by rw [e_]; exact bf.out)) (fun hs_ => Or.elim hs_ (fun hs_ => fun e_ => Nat.not_le.2 hs_ (by rw [e_]; exact bf.out)) (fun hs_ => fun e_ => Nat.not_le.2 hs_ (by rw [e_]; exact bf.out)))) (fun hn_ => (Kd.freshB (g := aj) (o := .cells #[.int .i64 am, .slice (some ap) aa.length aq, .slice ar ak.length au, .slice av an.length aw] 46 (0, 0)) (zB ae.out) k_ hn_)), Or.elim hk_ (fun hs_ => Or.elim hs_ (fun hs_ => fun e_ => Nat.not_le.2 hs_ (by rw [e_]; exact bg.out)) (fun hs_ => Or.elim hs_ (fun hs_ => fun e_ => Nat.not_le.2 hs_ (by rw [e_]; exact bg.out)) (fun hs_ => fun e_ => Nat.not_le.2 hs_ (by rw [e_]; exact bg.out)))) (fun hn_ => (Kd.freshB (g := ah) (o := .cells #[.int .i64 ((rd_T51 aa ab).f0), .int .i64 ((rd_T51 aa ab).f1), .int .u32 ((rd_T51 aa ab).f2), .string ((rd_T51 aa ab).f3), .int .u64 ((rd_T51 aa ab).f4), .int .u64 ((rd_T51 aa ab).f5)] 51 (0, 0)) (zB ad.out) k_ hn_)), Or.elim hk_ (fun hs_ => Or.elim hs_ (fun hs_ => fun e_ => Nat.not_le.2 hs_ (by rw [e_]; exact bh.out)) (fun hs_ => Or.elim hs_ (fun hs_ => fun e_ => Nat.not_le.2 hs_ (by rw [e_]; exact bh.out)) (fun hs_ => fun e_ => Nat.not_le.2 hs_ (by rw [e_]; exact bh.out)))) (fun hn_ => (Kd.freshB (g := ai) (o := .cells #[.int .u64 az, .int .u64 aD, .int .i64 aE] 24 (0, 0)) (zB af.out) k_ hn_)), Or.elim hk_ (fun hs_ => Or.elim hs_ (fun hs_ => fun e_ => Nat.not_le.2 hs_ (by rw [e_]; exact bi.out)) (fun hs_ => Or.elim hs_ (fun hs_ => fun e_ => Nat.not_le.2 hs_ (by rw [e_]; exact bi.out)) (fun hs_ => fun e_ => Nat.not_le.2 hs_ (by rw [e_]; exact bi.out)))) (fun hn_ => (Kd.freshB (g := ag) (o := .cells #[.int .i64 bb, .slice bk aF.length bj, .slice bl aS.length bm, .slice bn aT.length bo] 46 (0, 0)) (zB ax.out) k_ hn_))⟩)) (below_size (by repeat (first | (with_reducible first | exact HB.out | apply pA | apply pN | apply pD | refine pS ?_ aA.out | refine pS ?_ aB.out | refine pS ?_ aG.out | refine pS ?_ aL.out | refine pS ?_ aQ.out) | exact HB.out))))
         have n6_ := Aside0.mk (blk_below (g := ao) (o := .cells #[.int .i64 am, .slice (some ap) aa.length aq, .slice ar ak.length au, .slice av an.length aw, .int .i64 ab, .int .i64 aN, .int .i64 aO, .int .u8 aK] 48 (0, 0)) (zB al.out) hb)
         have n7_ := Aside0.mk (blk_below (g := aj) (o := .cells #[.int .i64 am, .slice (some ap) aa.length aq, .slice ar ak.length au, .slice av an.length aw] 46 (0, 0)) (zB ae.out) hb)
         have n8_ := Aside0.mk (blk_below (g := ah) (o := .cells #[.int .i64 ((rd_T51 aa ab).f0), .int .i64 ((rd_T51 aa ab).f1), .int .u32 ((rd_T51 aa ab).f2), .string ((rd_T51 aa ab).f3), .int .u64 ((rd_T51 aa ab).f4), .int .u64 ((rd_T51 aa ab).f5)] 51 (0, 0)) (zB ad.out) hb)
         have n9_ := Aside0.mk (blk_below (g := ai) (o := .cells #[.int .u64 az, .int .u64 aD, .int .i64 aE] 24 (0, 0)) (zB af.out) hb)
         have n10_ := Aside0.mk (blk_below (g := ag) (o := .cells #[.int .i64 bb, .slice bk aF.length bj, .slice bl aS.length bm, .slice bn aT.length bo] 46 (0, 0)) (zB ax.out) hb)
         have n11_ := Aside0.mk (below_step (by repeat (first | (with_reducible first | exact HB.out | apply pA | apply pN | apply pD | refine pS ?_ aA.out | refine pS ?_ aB.out | refine pS ?_ aG.out | refine pS ?_ aL.out | refine pS ?_ aQ.out) | exact HB.out)) hb)
         clear aH
         clear aI
         clear aJ
         clear al
         clear ae
         clear ad
         clear af
         clear ax
         clear HB
         have aH := n0_
         have aI := n1_
         have aJ := n2_
         have bc := n3_
         have a8 := n4_
         have bd := n5_
         have al := n6_
         have ae := n7_
         have ad := n8_
         have af := n9_
         have ax := n10_
         have HB := n11_
         clear n0_ n1_ n2_ n3_ n4_ n5_ n6_ n7_ n8_ n9_ n10_ n11_
         (try clear hb)
         (try clear hb2)
         (try clear hk)
         (try clear hi)
         (try clear ho0)
         (try clear ho1)
         (try clear ho2)
         refine hK.out _ _ ⟨(blk_cell ae.out 0).trans rfl, (blk_cell ae.out 1).trans rfl, (blk_cell ae.out 2).trans rfl, (blk_cell ae.out 3).trans rfl, (blk_cell af.out 0).trans rfl, (blk_cell af.out 1).trans rfl, (blk_cell af.out 2).trans rfl, (blk_cell ad.out 0).trans rfl, (blk_cell ad.out 1).trans rfl, (blk_cell ad.out 2).trans rfl, (blk_cell ad.out 3).trans rfl, (blk_cell ad.out 4).trans rfl, (blk_cell ad.out 5).trans rfl⟩ (fun hHeld => ?_)
         clear hK K
         refine norm_ (a' := ?_) ?_ ?_
         rotate_left
         ·show Act.put _ (some 71) _ = _
          simp only [Act.put, sT, s0, s1, i64_w, i32_w]
          rfl
         refine pure_ (i := 8) (N := some 63) (v := ?_) (a' := ?_) #[oI, oI, oI, oI, oI, oI, oI, oI, oI, oO, oO, oO, oO, oO] rfl rfl (any_of HT_.out (by kernel_rfl)) (fun _ _ _ h => h) (Or.inl ⟨by rfl, ?_⟩) ?_ ?_
         rotate_left
         ·intro w'
          go_simp
          with_reducible rfl
         rotate_left
         ·simp only [Act.put, sT, s0, s1, i64_w, i32_w]
          rfl
         refine pure_ (i := 9) (N := some 72) (v := ?_) (a' := ?_) #[oI, oI, oI, oI, oI, oI, oI, oI, oI, oI, oO, oO, oO, oO] rfl rfl (any_of HT_.out (by kernel_rfl)) (fun _ _ _ h => h) (Or.inl ⟨by rfl, ?_⟩) ?_ ?_
         rotate_left
         ·intro w'
          go_simp
          with_reducible rfl
         rotate_left
         ·simp only [Act.put, sT, s0, s1, i64_w, i32_w]
          rfl
         refine pure_ (i := 10) (N := some 73) (v := ?_) (a' := ?_) #[oI, oI, oI, oI, oI, oI, oI, oI, oI, oI, oI, oO, oO, oO] rfl rfl (any_of HT_.out (by kernel_rfl)) (fun _ _ _ h => h) (Or.inl ⟨by rfl, ?_⟩) ?_ ?_
         rotate_left
         ·intro w'
          go_simp
          with_reducible rfl
         rotate_left
         ·simp only [Act.put, sT, s0, s1, i64_w, i32_w]
          rfl
         refine one_ (i := 11) (N := some 13) #[oI, oI, oI, oI, oI, oI, oI, oI, oI, oI, oI, oI, oO, oO] rfl rfl (one_of HT_.out (by kernel_rfl)) (by decide) (fun K hK => ?_)
         refine box_step ?hg (N := 13) ?hd (cs := #[.int .i64 0, .slice none 0 0, .slice none 0 0, .slice none 0 0]) (t := 46) ?hr ?_; (case hd => rfl); (case hg => rfl); (case hr => first | (go_simp; done) | (go_simp; rfl))
         intro ac hg w62 hbox hb
         have n0_ := Aside0.mk (Kd.V_below (Kd.V_elderB (zV aH.out) ac (Nat.le_of_eq hg.symm)) hb)
         have n1_ := Aside0.mk (Kd.V_below (Kd.V_elderB (zV aI.out) ac (Nat.le_of_eq hg.symm)) hb)
         have n2_ := Aside0.mk (Kd.V_below (Kd.V_elderB (zV aJ.out) ac (Nat.le_of_eq hg.symm)) hb)
         have n3_ := Aside0.mk (Kd.V_below (Kd.V_elderB (zV bc.out) ac (Nat.le_of_eq hg.symm)) hb)
         have n4_ := Aside0.mk (Kd.V_below (Kd.V_elderB (zV a8.out) ac (Nat.le_of_eq hg.symm)) hb)
         have n5_ := Aside0.mk (Kd.V_below (Kd.V_elderB (zV bd.out) ac (Nat.le_of_eq hg.symm)) hb)
         have n6_ := Aside0.mk (blk_below (g := ao) (o := .cells #[.int .i64 am, .slice (some ap) aa.length aq, .slice ar ak.length au, .slice av an.length aw, .int .i64 ab, .int .i64 aN, .int .i64 aO, .int .u8 aK] 48 (0, 0)) (zB al.out) hb)
         have n7_ := Aside0.mk (blk_below (g := aj) (o := .cells #[.int .i64 am, .slice (some ap) aa.length aq, .slice ar ak.length au, .slice av an.length aw] 46 (0, 0)) (zB ae.out) hb)
         have n8_ := Aside0.mk (blk_below (g := ah) (o := .cells #[.int .i64 ((rd_T51 aa ab).f0), .int .i64 ((rd_T51 aa ab).f1), .int .u32 ((rd_T51 aa ab).f2), .string ((rd_T51 aa ab).f3), .int .u64 ((rd_T51 aa ab).f4), .int .u64 ((rd_T51 aa ab).f5)] 51 (0, 0)) (zB ad.out) hb)
         have n9_ := Aside0.mk (blk_below (g := ai) (o := .cells #[.int .u64 az, .int .u64 aD, .int .i64 aE] 24 (0, 0)) (zB af.out) hb)
         have n10_ := Aside0.mk (blk_below (g := ag) (o := .cells #[.int .i64 bb, .slice bk aF.length bj, .slice bl aS.length bm, .slice bn aT.length bo] 46 (0, 0)) (zB ax.out) hb)
         have n11_ := Aside0.mk (below_step (by repeat (first | (with_reducible first | exact HB.out | apply pA | apply pN | apply pD | refine pS ?_ aA.out | refine pS ?_ aB.out | refine pS ?_ aG.out | refine pS ?_ aL.out | refine pS ?_ aQ.out) | exact HB.out)) hb)
         have n12_ := Aside0.mk (hbox)
         have n13_ := Aside0.mk ((by rw [hg]; exact (below_size (by repeat (first | (with_reducible first | exact HB.out | apply pA | apply pN | apply pD | refine pS ?_ aA.out | refine pS ?_ aB.out | refine pS ?_ aG.out | refine pS ?_ aL.out | refine pS ?_ aQ.out) | exact HB.out))) : w.heap.size ≤ ac))
         have n14_ := Aside0.mk ((by rw [hg]; exact (below_size (by repeat (first | (with_reducible first | exact HB.out | apply pA | apply pN | apply pD | refine pS ?_ aA.out | refine pS ?_ aB.out | refine pS ?_ aG.out | refine pS ?_ aL.out | refine pS ?_ aQ.out) | exact HB.out))) : w.heap.size ≤ ac))
         have n15_ := Aside0.mk ((by rw [hg]; exact Nat.ne_of_lt (blk_lt (g := ao) (o := .cells #[.int .i64 am, .slice (some ap) aa.length aq, .slice ar ak.length au, .slice av an.length aw, .int .i64 ab, .int .i64 aN, .int .i64 aO, .int .u8 aK] 48 (0, 0)) (zB al.out)) : ao ≠ ac))
         have n16_ := Aside0.mk ((by rw [hg]; exact Nat.ne_of_gt (blk_lt (g := ao) (o := .cells #[.int .i64 am, .slice (some ap) aa.length aq, .slice ar ak.length au, .slice av an.length aw, .int .i64 ab, .int .i64 aN, .int .i64 aO, .int .u8 aK] 48 (0, 0)) (zB al.out)) : ac ≠ ao))
         have n17_ := Aside0.mk ((by rw [hg]; exact Nat.ne_of_lt (blk_lt (g := aj) (o := .cells #[.int .i64 am, .slice (some ap) aa.length aq, .slice ar ak.length au, .slice av an.length aw] 46 (0, 0)) (zB ae.out)) : aj ≠ ac))
         have n18_ := Aside0.mk ((by rw [hg]; exact Nat.ne_of_gt (blk_lt (g := aj) (o := .cells #[.int .i64 am, .slice (some ap) aa.length aq, .slice ar ak.length au, .slice av an.length aw] 46 (0, 0)) (zB ae.out)) : ac ≠ aj))
         have n19_ := Aside0.mk ((by rw [hg]; exact Nat.ne_of_lt (blk_lt (g := ah) (o := .cells #[.int .i64 ((rd_T51 aa ab).f0), .int .i64 ((rd_T51 aa ab).f1), .int .u32 ((rd_T51 aa ab).f2), .string ((rd_T51 aa ab).f3), .int .u64 ((rd_T51 aa ab).f4), .int .u64 ((rd_T51 aa ab).f5)] 51 (0, 0)) (zB ad.out)) : ah ≠ ac))
         have n20_ := Aside0.mk ((by rw [hg]; exact Nat.ne_of_gt (blk_lt (g := ah) (o := .cells #[.int .i64 ((rd_T51 aa ab).f0), .int .i64 ((rd_T51 aa ab).f1), .int .u32 ((rd_T51 aa ab).f2), .string ((rd_T51 aa ab).f3), .int .u64 ((rd_T51 aa ab).f4), .int .u64 ((rd_T51 aa ab).f5)] 51 (0, 0)) (zB ad.out)) : ac ≠ ah))
         have n21_ := Aside0.mk ((by rw [hg]; exact Nat.ne_of_lt (blk_lt (g := ai) (o := .cells #[.int .u64 az, .int .u64 aD, .int .i64 aE] 24 (0, 0)) (zB af.out)) : ai ≠ ac))
         have n22_ := Aside0.mk ((by rw [hg]; exact Nat.ne_of_gt (blk_lt (g := ai) (o := .cells #[.int .u64 az, .int .u64 aD, .int .i64 aE] 24 (0, 0)) (zB af.out)) : ac ≠ ai))
         have n23_ := Aside0.mk ((by rw [hg]; exact Nat.ne_of_lt (blk_lt (g := ag) (o := .cells #[.int .i64 bb, .slice bk aF.length bj, .slice bl aS.length bm, .slice bn aT.length bo] 46 (0, 0)) (zB ax.out)) : ag ≠ ac))
         have n24_ := Aside0.mk ((by rw [hg]; exact Nat.ne_of_gt (blk_lt (g := ag) (o := .cells #[.int .i64 bb, .slice bk aF.length bj, .slice bl aS.length bm, .slice bn aT.length bo] 46 (0, 0)) (zB ax.out)) : ac ≠ ag))
         clear aH
         clear aI
         clear aJ
         clear bc
         clear a8
         clear bd
         clear al
         clear ae
         clear ad
         clear af
         clear ax
         clear HB
         have aH := n0_
         have aI := n1_
         have aJ := n2_
         have bc := n3_
         have a8 := n4_
         have bd := n5_
         have al := n6_
         have ae := n7_
         have ad := n8_
         have af := n9_
         have ax := n10_
         have HB := n11_
         have aC := n12_
         have bD := n13_
         have br := n14_
         have bB := n15_
         have bO := n16_
         have bt := n17_
         have bI := n18_
         have bs := n19_
         have bP := n20_
         have bw := n21_
         have bQ := n22_
         have bC := n23_
         have bR := n24_
         clear n0_ n1_ n2_ n3_ n4_ n5_ n6_ n7_ n8_ n9_ n10_ n11_ n12_ n13_ n14_ n15_ n16_ n17_ n18_ n19_ n20_ n21_ n22_ n23_ n24_
         clear hb hbox hg
         refine hK.out _ _ ⟨(blk_cell ae.out 0).trans rfl, (blk_cell ae.out 1).trans rfl, (blk_cell ae.out 2).trans rfl, (blk_cell ae.out 3).trans rfl, (blk_cell af.out 0).trans rfl, (blk_cell af.out 1).trans rfl, (blk_cell af.out 2).trans rfl, (blk_cell ad.out 0).trans rfl, (blk_cell ad.out 1).trans rfl, (blk_cell ad.out 2).trans rfl, (blk_cell ad.out 3).trans rfl, (blk_cell ad.out 4).trans rfl, (blk_cell ad.out 5).trans rfl⟩ (fun hHeld => ?_)
         clear hK K
         refine norm_ (a' := ?_) ?_ ?_
         rotate_left
         ·show Act.put _ (some 13) _ = _
          simp only [Act.put, sT, s0, s1, i64_w, i32_w]
          rfl
         exact norm_ (by simp only [putAll, Act.put, sT, s0, s1]) (hCont (v469, v472, v475, ac) _ ⟨hHeld, (zV (Kd.V_mono aH.out (fun _ hk => ⟨hk.1.1, ⟨hk.1.2.1, ⟨hk.1.2.2.1, ⟨hk.1.2.2.2.1, ⟨hk.1.2.2.2.2, hk.2⟩⟩⟩⟩⟩))), (zV (Kd.V_mono aI.out (fun _ hk => ⟨hk.1.1, ⟨hk.1.2.1, ⟨hk.1.2.2.1, ⟨hk.1.2.2.2.1, ⟨hk.1.2.2.2.2, hk.2⟩⟩⟩⟩⟩))), (zV (Kd.V_mono aJ.out (fun _ hk => ⟨hk.1.1, ⟨hk.1.2.1, ⟨hk.1.2.2.1, ⟨hk.1.2.2.2.1, ⟨hk.1.2.2.2.2, hk.2⟩⟩⟩⟩⟩))), (zV (Kd.V_mono bc.out (fun _ hk => ⟨hk.1.1, ⟨hk.1.2.1, ⟨hk.1.2.2.1, ⟨hk.1.2.2.2.1, ⟨hk.1.2.2.2.2, hk.2⟩⟩⟩⟩⟩))), (zV (Kd.V_mono a8.out (fun _ hk => ⟨hk.1.1, ⟨hk.1.2.1, ⟨hk.1.2.2.1, ⟨hk.1.2.2.2.1, ⟨hk.1.2.2.2.2, hk.2⟩⟩⟩⟩⟩))), (zV (Kd.V_mono bd.out (fun _ hk => ⟨hk.1.1, ⟨hk.1.2.1, ⟨hk.1.2.2.1, ⟨hk.1.2.2.2.1, ⟨hk.1.2.2.2.2, hk.2⟩⟩⟩⟩⟩))), (zB al.out), (zB ae.out), (zB ad.out), (zB af.out), (zB ax.out), (zB aC.out), bD.out, br.out, bB.out, bO.out, bt.out, bI.out, bs.out, bP.out, bw.out, bQ.out, bC.out, bR.out, (by repeat (first | (with_reducible first | exact HB.out | apply pA | apply pN | apply pD | refine pS ?_ aA.out | refine pS ?_ aB.out | refine pS ?_ aG.out | refine pS ?_ aL.out | refine pS ?_ aQ.out | refine pS ?_ br.out) | exact HB.out))⟩)
        ·skip
         refine box_step ?hg (N := 13) ?hd (cs := #[.int .i64 0, .slice none 0 0, .slice none 0 0, .slice none 0 0]) (t := 46) ?hr ?_; (case hd => rfl); (case hg => rfl); (case hr => first | (go_simp; done) | (go_simp; rfl))
         intro ac hg w61 hbox hb
         have n0_ := Aside0.mk (Kd.V_below (Kd.V_elderB (zV aH.out) ac (Nat.le_of_eq hg.symm)) hb)
         have n1_ := Aside0.mk (Kd.V_below (Kd.V_elderB (zV aI.out) ac (Nat.le_of_eq hg.symm)) hb)
         have n2_ := Aside0.mk (Kd.V_below (Kd.V_elderB (zV aJ.out) ac (Nat.le_of_eq hg.symm)) hb)
         have n3_ := Aside0.mk (blk_below (g := ao) (o := .cells #[.int .i64 am, .slice (some ap) aa.length aq, .slice ar ak.length au, .slice av an.length aw, .int .i64 ab, .int .i64 aN, .int .i64 aO, .int .u8 aK] 48 (0, 0)) (zB al.out) hb)
         have n4_ := Aside0.mk (blk_below (g := aj) (o := .cells #[.int .i64 am, .slice (some ap) aa.length aq, .slice ar ak.length au, .slice av an.length aw] 46 (0, 0)) (zB ae.out) hb)
         have n5_ := Aside0.mk (blk_below (g := ah) (o := .cells #[.int .i64 ((rd_T51 aa ab).f0), .int .i64 ((rd_T51 aa ab).f1), .int .u32 ((rd_T51 aa ab).f2), .string ((rd_T51 aa ab).f3), .int .u64 ((rd_T51 aa ab).f4), .int .u64 ((rd_T51 aa ab).f5)] 51 (0, 0)) (zB ad.out) hb)
         have n6_ := Aside0.mk (blk_below (g := ai) (o := .cells #[.int .u64 az, .int .u64 aD, .int .i64 aE] 24 (0, 0)) (zB af.out) hb)
         have n7_ := Aside0.mk (blk_below (g := ag) (o := .cells #[.int .i64 bb, .slice bk aF.length bj, .slice bl aS.length bm, .slice bn aT.length bo] 46 (0, 0)) (zB ax.out) hb)
         have n8_ := Aside0.mk (below_step (by repeat (first | (with_reducible first | exact HB.out | apply pA | apply pN | apply pD | refine pS ?_ aA.out | refine pS ?_ aB.out | refine pS ?_ aG.out | refine pS ?_ aL.out | refine pS ?_ aQ.out) | exact HB.out)) hb)
         have n9_ := Aside0.mk (hbox)
         have n10_ := Aside0.mk ((by rw [hg]; exact (below_size (by repeat (first | (with_reducible first | exact HB.out | apply pA | apply pN | apply pD | refine pS ?_ aA.out | refine pS ?_ aB.out | refine pS ?_ aG.out | refine pS ?_ aL.out | refine pS ?_ aQ.out) | exact HB.out))) : w.heap.size ≤ ac))
         have n11_ := Aside0.mk ((by rw [hg]; exact (below_size (by repeat (first | (with_reducible first | exact HB.out | apply pA | apply pN | apply pD | refine pS ?_ aA.out | refine pS ?_ aB.out | refine pS ?_ aG.out | refine pS ?_ aL.out | refine pS ?_ aQ.out) | exact HB.out))) : w.heap.size ≤ ac))
         have n12_ := Aside0.mk ((by rw [hg]; exact Nat.ne_of_lt (blk_lt (g := ao) (o := .cells #[.int .i64 am, .slice (some ap) aa.length aq, .slice ar ak.length au, .slice av an.length aw, .int .i64 ab, .int .i64 aN, .int .i64 aO, .int .u8 aK] 48 (0, 0)) (zB al.out)) : ao ≠ ac))
         have n13_ := Aside0.mk ((by rw [hg]; exact Nat.ne_of_gt (blk_lt (g := ao) (o := .cells #[.int .i64 am, .slice (some ap) aa.length aq, .slice ar ak.length au, .slice av an.length aw, .int .i64 ab, .int .i64 aN, .int .i64 aO, .int .u8 aK] 48 (0, 0)) (zB al.out)) : ac ≠ ao))
         have n14_ := Aside0.mk ((by rw [hg]; exact Nat.ne_of_lt (blk_lt (g := aj) (o := .cells #[.int .i64 am, .slice (some ap) aa.length aq, .slice ar ak.length au, .slice av an.length aw] 46 (0, 0)) (zB ae.out)) : aj ≠ ac))
         have n15_ := Aside0.mk ((by rw [hg]; exact Nat.ne_of_gt (blk_lt (g := aj) (o := .cells #[.int .i64 am, .slice (some ap) aa.length aq, .slice ar ak.length au, .slice av an.length aw] 46 (0, 0)) (zB ae.out)) : ac ≠ aj))
         have n16_ := Aside0.mk ((by rw [hg]; exact Nat.ne_of_lt (blk_lt (g := ah) (o := .cells #[.int .i64 ((rd_T51 aa ab).f0), .int .i64 ((rd_T51 aa ab).f1), .int .u32 ((rd_T51 aa ab).f2), .string ((rd_T51 aa ab).f3), .int .u64 ((rd_T51 aa ab).f4), .int .u64 ((rd_T51 aa ab).f5)] 51 (0, 0)) (zB ad.out)) : ah ≠ ac))
         have n17_ := Aside0.mk ((by rw [hg]; exact Nat.ne_of_gt (blk_lt (g := ah) (o := .cells #[.int .i64 ((rd_T51 aa ab).f0), .int .i64 ((rd_T51 aa ab).f1), .int .u32 ((rd_T51 aa ab).f2), .string ((rd_T51 aa ab).f3), .int .u64 ((rd_T51 aa ab).f4), .int .u64 ((rd_T51 aa ab).f5)] 51 (0, 0)) (zB ad.out)) : ac ≠ ah))
         have n18_ := Aside0.mk ((by rw [hg]; exact Nat.ne_of_lt (blk_lt (g := ai) (o := .cells #[.int .u64 az, .int .u64 aD, .int .i64 aE] 24 (0, 0)) (zB af.out)) : ai ≠ ac))
         have n19_ := Aside0.mk ((by rw [hg]; exact Nat.ne_of_gt (blk_lt (g := ai) (o := .cells #[.int .u64 az, .int .u64 aD, .int .i64 aE] 24 (0, 0)) (zB af.out)) : ac ≠ ai))
         have n20_ := Aside0.mk ((by rw [hg]; exact Nat.ne_of_lt (blk_lt (g := ag) (o := .cells #[.int .i64 bb, .slice bk aF.length bj, .slice bl aS.length bm, .slice bn aT.length bo] 46 (0, 0)) (zB ax.out)) : ag ≠ ac))
         have n21_ := Aside0.mk ((by rw [hg]; exact Nat.ne_of_gt (blk_lt (g := ag) (o := .cells #[.int .i64 bb, .slice bk aF.length bj, .slice bl aS.length bm, .slice bn aT.length bo] 46 (0, 0)) (zB ax.out)) : ac ≠ ag))
         clear aH
         clear aI
         clear aJ
         clear al
         clear ae
         clear ad
         clear af
         clear ax
         clear HB
         have aH := n0_
         have aI := n1_
         have aJ := n2_
         have al := n3_
         have ae := n4_
         have ad := n5_
         have af := n6_
         have ax := n7_
         have HB := n8_
         have aC := n9_
         have bD := n10_
         have br := n11_
         have bB := n12_
         have bO := n13_
         have bt := n14_
         have bI := n15_
         have bs := n16_
         have bP := n17_
         have bw := n18_
         have bQ := n19_
         have bC := n20_
         have bR := n21_
         clear n0_ n1_ n2_ n3_ n4_ n5_ n6_ n7_ n8_ n9_ n10_ n11_ n12_ n13_ n14_ n15_ n16_ n17_ n18_ n19_ n20_ n21_
         clear hb hbox hg
         refine hK.out _ _ ⟨(blk_cell ae.out 0).trans rfl, (blk_cell ae.out 1).trans rfl, (blk_cell ae.out 2).trans rfl, (blk_cell ae.out 3).trans rfl, (blk_cell af.out 0).trans rfl, (blk_cell af.out 1).trans rfl, (blk_cell af.out 2).trans rfl, (blk_cell ad.out 0).trans rfl, (blk_cell ad.out 1).trans rfl, (blk_cell ad.out 2).trans rfl, (blk_cell ad.out 3).trans rfl, (blk_cell ad.out 4).trans rfl, (blk_cell ad.out 5).trans rfl⟩ (fun hHeld => ?_)
         clear hK K
         refine norm_ (a' := ?_) ?_ ?_
         rotate_left
         ·show Act.put _ (some 13) _ = _
          simp only [Act.put, sT, s0, s1, i64_w, i32_w]
          rfl
         refine one_ (i := 7) (N := some 71) #[oI, oI, oI, oI, oI, oI, oI, oI, oO, oO, oO, oI, oO, oO] rfl rfl (one_of HT_.out (by kernel_rfl)) (by decide) (fun K hK => ?_)
         refine goes_ Try.func23 (by kernel_rfl) rfl #[.agg #[.int .i64 am, .slice (some ap) aa.length aq, .slice ar ak.length au, .slice av an.length aw], .agg #[.int .i64 cf, .int .i64 cg, .int .i64 ch, .int .u32 ci, .string cj, .int .u64 ck, .int .u64 cl, .int .i64 cm, .int .i64 cn]] (by rfl) rfl rfl (by (try simp only [List.map_toArray, List.map_cons, List.map_nil]); first | done | rfl | (simp only [List.length_drop, List.length_take]; rfl)) ?_
         with_reducible refine (portreeveref04_Apply.calls bu am (fun k_ => k_ < w.heap.size) _ _ aa (fun k_ => k_ < w.heap.size) _ _ ak (fun k_ => k_ < w.heap.size) _ _ an cf cg ch ci cj ck cl cm cn aP aM ay aR bY _ ?side1 ?side2 ?side3 d6.out).mono ?_
         (case side1 => exact Kd.V_mk HC0_1.out (Kd.F_below (Kd.C_F k51_heap bX.out) (by repeat (first | (with_reducible first | exact HB.out | apply pA | apply pN | apply pD | refine pS ?_ aA.out | refine pS ?_ aB.out | refine pS ?_ aG.out | refine pS ?_ aL.out | refine pS ?_ aQ.out | refine pS ?_ br.out) | exact HB.out))))
         (case side2 => exact Kd.V_mk HC0_2.out (Kd.F_below (Kd.C_F k56_heap bZ.out) (by repeat (first | (with_reducible first | exact HB.out | apply pA | apply pN | apply pD | refine pS ?_ aA.out | refine pS ?_ aB.out | refine pS ?_ aG.out | refine pS ?_ aL.out | refine pS ?_ aQ.out | refine pS ?_ br.out) | exact HB.out))))
         (case side3 => exact Kd.V_mk HC0_3.out (Kd.F_below (Kd.C_F k68_heap b0.out) (by repeat (first | (with_reducible first | exact HB.out | apply pA | apply pN | apply pD | refine pS ?_ aA.out | refine pS ?_ aB.out | refine pS ?_ aG.out | refine pS ?_ aL.out | refine pS ?_ aQ.out | refine pS ?_ br.out) | exact HB.out))))
         rintro e w62 ⟨v469, v472, v475, rfl, ho0, ho1, ho2, hb⟩
         refine ⟨_, rfl, ?_⟩
         have n0_ := Aside0.mk (Kd.V_below (zV aH.out) hb)
         have n1_ := Aside0.mk (Kd.V_below (zV aI.out) hb)
         have n2_ := Aside0.mk (Kd.V_below (zV aJ.out) hb)
         have n3_ := Aside0.mk (Kd.V_lower (Kd.V_mono (ok' := fun k_ => k_ ≠ ao ∧ k_ ≠ aj ∧ k_ ≠ ah ∧ k_ ≠ ai ∧ k_ ≠ ag ∧ k_ ≠ ac) ho0 (fun k_ hk_ => ⟨Or.elim hk_ (fun hs_ => Or.elim hs_ (fun hs_ => fun e_ => Nat.not_le.2 hs_ (by rw [e_]; exact be.out)) (fun hs_ => Or.elim hs_ (fun hs_ => fun e_ => Nat.not_le.2 hs_ (by rw [e_]; exact be.out)) (fun hs_ => fun e_ => Nat.not_le.2 hs_ (by rw [e_]; exact be.out)))) (fun hn_ => (Kd.freshB (g := ao) (o := .cells #[.int .i64 am, .slice (some ap) aa.length aq, .slice ar ak.length au, .slice av an.length aw, .int .i64 ab, .int .i64 aN, .int .i64 aO, .int .u8 aK] 48 (0, 0)) (zB al.out) k_ hn_)), Or.elim hk_ (fun hs_ => Or.elim hs_ (fun hs_ => fun e_ => Nat.not_le.2 hs_ (by rw [e_]; exact bf.out)) (fun hs_ => Or.elim hs_ (fun hs_ => fun e_ => Nat.not_le.2 hs_ (by rw [e_]; exact bf.out)) (fun hs_ => fun e_ => Nat.not_le.2 hs_ (by rw [e_]; exact bf.out)))) (fun hn_ => (Kd.freshB (g := aj) (o := .cells #[.int .i64 am, .slice (some ap) aa.length aq, .slice ar ak.length au, .slice av an.length aw] 46 (0, 0)) (zB ae.out) k_ hn_)), Or.elim hk_ (fun hs_ => Or.elim hs_ (fun hs_ => fun e_ => Nat.not_le.2 hs_ (by rw [e_]; exact bg.out)) (fun hs_ => Or.elim hs_ (fun hs_ => fun e_ => Nat.not_le.2 hs_ (by rw [e_]; exact bg.out)) (fun hs_ => fun e_ => Nat.not_le.2 hs_ (by rw [e_]; exact bg.out)))) (fun hn_ => (Kd.freshB (g := ah) (o := .cells #[.int .i64 ((rd_T51 aa ab).f0), .int .i64 ((rd_T51 aa ab).f1), .int .u32 ((rd_T51 aa ab).f2), .string ((rd_T51 aa ab).f3), .int .u64 ((rd_T51 aa ab).f4), .int .u64 ((rd_T51 aa ab).f5)] 51 (0, 0)) (zB ad.out) k_ hn_)), Or.elim hk_ (fun hs_ => Or.elim hs_ (fun hs_ => fun e_ => Nat.not_le.2 hs_ (by rw [e_]; exact bh.out)) (fun hs_ => Or.elim hs_ (fun hs_ => fun e_ => Nat.not_le.2 hs_ (by rw [e_]; exact bh.out)) (fun hs_ => fun e_ => Nat.not_le.2 hs_ (by rw [e_]; exact bh.out)))) (fun hn_ => (Kd.freshB (g := ai) (o := .cells #[.int .u64 az, .int .u64 aD, .int .i64 aE] 24 (0, 0)) (zB af.out) k_ hn_)), Or.elim hk_ (fun hs_ => Or.elim hs_ (fun hs_ => fun e_ => Nat.not_le.2 hs_ (by rw [e_]; exact bi.out)) (fun hs_ => Or.elim hs_ (fun hs_ => fun e_ => Nat.not_le.2 hs_ (by rw [e_]; exact bi.out)) (fun hs_ => fun e_ => Nat.not_le.2 hs_ (by rw [e_]; exact bi.out)))) (fun hn_ => (Kd.freshB (g := ag) (o := .cells #[.int .i64 bb, .slice bk aF.length bj, .slice bl aS.length bm, .slice bn aT.length bo] 46 (0, 0)) (zB ax.out) k_ hn_)), Or.elim hk_ (fun hs_ => Or.elim hs_ (fun hs_ => fun e_ => Nat.not_le.2 hs_ (by rw [e_]; exact bD.out)) (fun hs_ => Or.elim hs_ (fun hs_ => fun e_ => Nat.not_le.2 hs_ (by rw [e_]; exact bD.out)) (fun hs_ => fun e_ => Nat.not_le.2 hs_ (by rw [e_]; exact bD.out)))) (fun hn_ => (Kd.freshB (g := ac) (o := .cells #[.int .i64 0, .slice none 0 0, .slice none 0 0, .slice none 0 0] 46 (0, 0)) (zB aC.out) k_ hn_))⟩)) (below_size (by repeat (first | (with_reducible first | exact HB.out | apply pA | apply pN | apply pD | refine pS ?_ aA.out | refine pS ?_ aB.out | refine pS ?_ aG.out | refine pS ?_ aL.out | refine pS ?_ aQ.out | refine pS ?_ br.out) | exact HB.out))))
         have n4_ := Aside0.mk (Kd.V_lower (Kd.V_mono (ok' := fun k_ => k_ ≠ ao ∧ k_ ≠ aj ∧ k_ ≠ ah ∧ k_ ≠ ai ∧ k_ ≠ ag ∧ k_ ≠ ac) ho1 (fun k_ hk_ => ⟨Or.elim hk_ (fun hs_ => Or.elim hs_ (fun hs_ => fun e_ => Nat.not_le.2 hs_ (by rw [e_]; exact be.out)) (fun hs_ => Or.elim hs_ (fun hs_ => fun e_ => Nat.not_le.2 hs_ (by rw [e_]; exact be.out)) (fun hs_ => fun e_ => Nat.not_le.2 hs_ (by rw [e_]; exact be.out)))) (fun hn_ => (Kd.freshB (g := ao) (o := .cells #[.int .i64 am, .slice (some ap) aa.length aq, .slice ar ak.length au, .slice av an.length aw, .int .i64 ab, .int .i64 aN, .int .i64 aO, .int .u8 aK] 48 (0, 0)) (zB al.out) k_ hn_)), Or.elim hk_ (fun hs_ => Or.elim hs_ (fun hs_ => fun e_ => Nat.not_le.2 hs_ (by rw [e_]; exact bf.out)) (fun hs_ => Or.elim hs_ (fun hs_ => fun e_ => Nat.not_le.2 hs_ (by rw [e_]; exact bf.out)) (fun hs_ => fun e_ => Nat.not_le.2 hs_ (by rw [e_]; exact bf.out)))) (fun hn_ => (Kd.freshB (g := aj) (o := .cells #[.int .i64 am, .slice (some ap) aa.length aq, .slice ar ak.length au, .slice av an.length aw] 46 (0, 0)) (zB ae.out) k_ hn_)), Or.elim hk_ (fun hs_ => Or.elim hs_ (fun hs_ => fun e_ => Nat.not_le.2 hs_ (by rw [e_]; exact bg.out)) (fun hs_ => Or.elim hs_ (fun hs_ => fun e_ => Nat.not_le.2 hs_ (by rw [e_]; exact bg.out)) (fun hs_ => fun e_ => Nat.not_le.2 hs_ (by rw [e_]; exact bg.out)))) (fun hn_ => (Kd.freshB (g := ah) (o := .cells #[.int .i64 ((rd_T51 aa ab).f0), .int .i64 ((rd_T51 aa ab).f1), .int .u32 ((rd_T51 aa ab).f2), .string ((rd_T51 aa ab).f3), .int .u64 ((rd_T51 aa ab).f4), .int .u64 ((rd_T51 aa ab).f5)] 51 (0, 0)) (zB ad.out) k_ hn_)), Or.elim hk_ (fun hs_ => Or.elim hs_ (fun hs_ => fun e_ => Nat.not_le.2 hs_ (by rw [e_]; exact bh.out)) (fun hs_ => Or.elim hs_ (fun hs_ => fun e_ => Nat.not_le.2 hs_ (by rw [e_]; exact bh.out)) (fun hs_ => fun e_ => Nat.not_le.2 hs_ (by rw [e_]; exact bh.out)))) (fun hn_ => (Kd.freshB (g := ai) (o := .cells #[.int .u64 az, .int .u64 aD, .int .i64 aE] 24 (0, 0)) (zB af.out) k_ hn_)), Or.elim hk_ (fun hs_ => Or.elim hs_ (fun hs_ => fun e_ => Nat.not_le.2 hs_ (by rw [e_]; exact bi.out)) (fun hs_ => Or.elim hs_ (fun hs_ => fun e_ => Nat.not_le.2 hs_ (by rw [e_]; exact bi.out)) (fun hs_ => fun e_ => Nat.not_le.2 hs_ (by rw [e_]; exact bi.out)))) (fun hn_ => (Kd.freshB (g := ag) (o := .cells #[.int .i64 bb, .slice bk aF.length bj, .slice bl aS.length bm, .slice bn aT.length bo] 46 (0, 0)) (zB ax.out) k_ hn_)), Or.elim hk_ (fun hs_ => Or.elim hs_ (fun hs_ => fun e_ => Nat.not_le.2 hs_ (by rw [e_]; exact bD.out)) (fun hs_ => Or.elim hs_ (fun hs_ => fun e_ => Nat.not_le.2 hs_ (by rw [e_]; exact bD.out)) (fun hs_ => fun e_ => Nat.not_le.2 hs_ (by rw [e_]; exact bD.out)))) (fun hn_ => (Kd.freshB (g := ac) (o := .cells #[.int .i64 0, .slice none 0 0, .slice none 0 0, .slice none 0 0] 46 (0, 0)) (zB aC.out) k_ hn_))⟩)) (below_size (by repeat (first | (with_reducible first | exact HB.out | apply pA | apply pN | apply pD | refine pS ?_ aA.out | refine pS ?_ aB.out | refine pS ?_ aG.out | refine pS ?_ aL.out | refine pS ?_ aQ.out | refine pS ?_ br.out) | exact HB.out))))
         have n5_ := Aside0.mk (Kd.V_lower (Kd.V_mono (ok' := fun k_ => k_ ≠ ao ∧ k_ ≠ aj ∧ k_ ≠ ah ∧ k_ ≠ ai ∧ k_ ≠ ag ∧ k_ ≠ ac) ho2 (fun k_ hk_ => ⟨Or.elim hk_ (fun hs_ => Or.elim hs_ (fun hs_ => fun e_ => Nat.not_le.2 hs_ (by rw [e_]; exact be.out)) (fun hs_ => Or.elim hs_ (fun hs_ => fun e_ => Nat.not_le.2 hs_ (by rw [e_]; exact be.out)) (fun hs_ => fun e_ => Nat.not_le.2 hs_ (by rw [e_]; exact be.out)))) (fun hn_ => (Kd.freshB (g := ao) (o := .cells #[.int .i64 am, .slice (some ap) aa.length aq, .slice ar ak.length au, .slice av an.length aw, .int .i64 ab, .int .i64 aN, .int .i64 aO, .int .u8 aK] 48 (0, 0)) (zB al.out) k_ hn_)), Or.elim hk_ (fun hs_ => Or.elim hs_ (fun hs_ => fun e_ => Nat.not_le.2 hs_ (by rw [e_]; exact bf.out)) (fun hs_ => Or.elim hs_ (fun hs_ => fun e_ => Nat.not_le.2 hs_ (by rw [e_]; exact bf.out)) (fun hs_ => fun e_ => Nat.not_le.2 hs_ (by rw [e_]; exact bf.out)))) (fun hn_ => (Kd.freshB (g := aj) (o := .cells #[.int .i64 am, .slice (some ap) aa.length aq, .slice ar ak.length au, .slice av an.length aw] 46 (0, 0)) (zB ae.out) k_ hn_)), Or.elim hk_ (fun hs_ => Or.elim hs_ (fun hs_ => fun e_ => Nat.not_le.2 hs_ (by rw [e_]; exact bg.out)) (fun hs_ => Or.elim hs_ (fun hs_ => fun e_ => Nat.not_le.2 hs_ (by rw [e_]; exact bg.out)) (fun hs_ => fun e_ => Nat.not_le.2 hs_ (by rw [e_]; exact bg.out)))) (fun hn_ => (Kd.freshB (g := ah) (o := .cells #[.int .i64 ((rd_T51 aa ab).f0), .int .i64 ((rd_T51 aa ab).f1), .int .u32 ((rd_T51 aa ab).f2), .string ((rd_T51 aa ab).f3), .int .u64 ((rd_T51 aa ab).f4), .int .u64 ((rd_T51 aa ab).f5)] 51 (0, 0)) (zB ad.out) k_ hn_)), Or.elim hk_ (fun hs_ => Or.elim hs_ (fun hs_ => fun e_ => Nat.not_le.2 hs_ (by rw [e_]; exact bh.out)) (fun hs_ => Or.elim hs_ (fun hs_ => fun e_ => Nat.not_le.2 hs_ (by rw [e_]; exact bh.out)) (fun hs_ => fun e_ => Nat.not_le.2 hs_ (by rw [e_]; exact bh.out)))) (fun hn_ => (Kd.freshB (g := ai) (o := .cells #[.int .u64 az, .int .u64 aD, .int .i64 aE] 24 (0, 0)) (zB af.out) k_ hn_)), Or.elim hk_ (fun hs_ => Or.elim hs_ (fun hs_ => fun e_ => Nat.not_le.2 hs_ (by rw [e_]; exact bi.out)) (fun hs_ => Or.elim hs_ (fun hs_ => fun e_ => Nat.not_le.2 hs_ (by rw [e_]; exact bi.out)) (fun hs_ => fun e_ => Nat.not_le.2 hs_ (by rw [e_]; exact bi.out)))) (fun hn_ => (Kd.freshB (g := ag) (o := .cells #[.int .i64 bb, .slice bk aF.length bj, .slice bl aS.length bm, .slice bn aT.length bo] 46 (0, 0)) (zB ax.out) k_ hn_)), Or.elim hk_ (fun hs_ => Or.elim hs_ (fun hs_ => fun e_ => Nat.not_le.2 hs_ (by rw [e_]; exact bD.out)) (fun hs_ => Or.elim hs_ (fun hs_ => fun e_ => Nat.not_le.2 hs_ (by rw [e_]; exact bD.out)) (fun hs_ => fun e_ => Nat.not_le.2 hs_ (by rw [e_]; exact bD.out)))) (fun hn_ => (Kd.freshB (g := ac) (o := .cells #[.int .i64 0, .slice none 0 0, .slice none 0 0, .slice none 0 0] 46 (0, 0)) (zB aC.out) k_ hn_))⟩)) (below_size (by repeat (first | (with_reducible first | exact HB.out | apply pA | apply pN | apply pD | refine pS ?_ aA.out | refine pS ?_ aB.out | refine pS ?_ aG.out | refine pS ?_ aL.out | refine pS ?_ aQ.out | refine pS ?_ br.out) | exact HB.out))))
         have n6_ := Aside0.mk (blk_below (g := ao) (o := .cells #[.int .i64 am, .slice (some ap) aa.length aq, .slice ar ak.length au, .slice av an.length aw, .int .i64 ab, .int .i64 aN, .int .i64 aO, .int .u8 aK] 48 (0, 0)) (zB al.out) hb)
         have n7_ := Aside0.mk (blk_below (g := aj) (o := .cells #[.int .i64 am, .slice (some ap) aa.length aq, .slice ar ak.length au, .slice av an.length aw] 46 (0, 0)) (zB ae.out) hb)
         have n8_ := Aside0.mk (blk_below (g := ah) (o := .cells #[.int .i64 ((rd_T51 aa ab).f0), .int .i64 ((rd_T51 aa ab).f1), .int .u32 ((rd_T51 aa ab).f2), .string ((rd_T51 aa ab).f3), .int .u64 ((rd_T51 aa ab).f4), .int .u64 ((rd_T51 aa ab).f5)] 51 (0, 0)) (zB ad.out) hb)
         have n9_ := Aside0.mk (blk_below (g := ai) (o := .cells #[.int .u64 az, .int .u64 aD, .int .i64 aE] 24 (0, 0)) (zB af.out) hb)
         have n10_ := Aside0.mk (blk_below (g := ag) (o := .cells #[.int .i64 bb, .slice bk aF.length bj, .slice bl aS.length bm, .slice bn aT.length bo] 46 (0, 0)) (zB ax.out) hb)
         have n11_ := Aside0.mk (blk_below (g := ac) (o := .cells #[.int .i64 0, .slice none 0 0, .slice none 0 0, .slice none 0 0] 46 (0, 0)) (zB aC.out) hb)
         have n12_ := Aside0.mk (below_step (by repeat (first | (with_reducible first | exact HB.out | apply pA | apply pN | apply pD | refine pS ?_ aA.out | refine pS ?_ aB.out | refine pS ?_ aG.out | refine pS ?_ aL.out | refine pS ?_ aQ.out | refine pS ?_ br.out) | exact HB.out)) hb)
         clear aH
         clear aI
         clear aJ
         clear al
         clear ae
         clear ad
         clear af
         clear ax
         clear aC
         clear HB
         have aH := n0_
         have aI := n1_
         have aJ := n2_
         have bc := n3_
         have a8 := n4_
         have bd := n5_
         have al := n6_
         have ae := n7_
         have ad := n8_
         have af := n9_
         have ax := n10_
         have aC := n11_
         have HB := n12_
         clear n0_ n1_ n2_ n3_ n4_ n5_ n6_ n7_ n8_ n9_ n10_ n11_ n12_
         (try clear hb)
         (try clear hb2)
         (try clear hk)
         (try clear hi)
         (try clear ho0)
         (try clear ho1)
         (try clear ho2)
         refine hK.out _ _ ⟨(blk_cell ae.out 0).trans rfl, (blk_cell ae.out 1).trans rfl, (blk_cell ae.out 2).trans rfl, (blk_cell ae.out 3).trans rfl, (blk_cell af.out 0).trans rfl, (blk_cell af.out 1).trans rfl, (blk_cell af.out 2).trans rfl, (blk_cell ad.out 0).trans rfl, (blk_cell ad.out 1).trans rfl, (blk_cell ad.out 2).trans rfl, (blk_cell ad.out 3).trans rfl, (blk_cell ad.out 4).trans rfl, (blk_cell ad.out 5).trans rfl⟩ (fun hHeld => ?_)
         clear hK K
         refine norm_ (a' := ?_) ?_ ?_
         rotate_left
         ·show Act.put _ (some 71) _ = _
          simp only [Act.put, sT, s0, s1, i64_w, i32_w]
          rfl
         refine pure_ (i := 8) (N := some 63) (v := ?_) (a' := ?_) #[oI, oI, oI, oI, oI, oI, oI, oI, oI, oO, oO, oI, oO, oO] rfl rfl (any_of HT_.out (by kernel_rfl)) (fun _ _ _ h => h) (Or.inl ⟨by rfl, ?_⟩) ?_ ?_
         rotate_left
         ·intro w'
          go_simp
          with_reducible rfl
         rotate_left
         ·simp only [Act.put, sT, s0, s1, i64_w, i32_w]
          rfl
         refine pure_ (i := 9) (N := some 72) (v := ?_) (a' := ?_) #[oI, oI, oI, oI, oI, oI, oI, oI, oI, oI, oO, oI, oO, oO] rfl rfl (any_of HT_.out (by kernel_rfl)) (fun _ _ _ h => h) (Or.inl ⟨by rfl, ?_⟩) ?_ ?_
         rotate_left
         ·intro w'
          go_simp
          with_reducible rfl
         rotate_left
         ·simp only [Act.put, sT, s0, s1, i64_w, i32_w]
          rfl
         refine pure_ (i := 10) (N := some 73) (v := ?_) (a' := ?_) #[oI, oI, oI, oI, oI, oI, oI, oI, oI, oI, oI, oI, oO, oO] rfl rfl (any_of HT_.out (by kernel_rfl)) (fun _ _ _ h => h) (Or.inl ⟨by rfl, ?_⟩) ?_ ?_
         rotate_left
         ·intro w'
          go_simp
          with_reducible rfl
         rotate_left
         ·simp only [Act.put, sT, s0, s1, i64_w, i32_w]
          rfl
         exact norm_ (by simp only [putAll, Act.put, sT, s0, s1]) (hCont (v469, v472, v475, ac) _ ⟨hHeld, (zV (Kd.V_mono aH.out (fun _ hk => ⟨hk.1.1, ⟨hk.1.2.1, ⟨hk.1.2.2.1, ⟨hk.1.2.2.2.1, ⟨hk.1.2.2.2.2, hk.2⟩⟩⟩⟩⟩))), (zV (Kd.V_mono aI.out (fun _ hk => ⟨hk.1.1, ⟨hk.1.2.1, ⟨hk.1.2.2.1, ⟨hk.1.2.2.2.1, ⟨hk.1.2.2.2.2, hk.2⟩⟩⟩⟩⟩))), (zV (Kd.V_mono aJ.out (fun _ hk => ⟨hk.1.1, ⟨hk.1.2.1, ⟨hk.1.2.2.1, ⟨hk.1.2.2.2.1, ⟨hk.1.2.2.2.2, hk.2⟩⟩⟩⟩⟩))), (zV bc.out), (zV a8.out), (zV bd.out), (zB al.out), (zB ae.out), (zB ad.out), (zB af.out), (zB ax.out), (zB aC.out), bD.out, br.out, bB.out, bO.out, bt.out, bI.out, bs.out, bP.out, bw.out, bQ.out, bC.out, bR.out, (by repeat (first | (with_reducible first | exact HB.out | apply pA | apply pN | apply pD | refine pS ?_ aA.out | refine pS ?_ aB.out | refine pS ?_ aG.out | refine pS ?_ aL.out | refine pS ?_ aQ.out | refine pS ?_ br.out) | exact HB.out))⟩)
       ·skip
        refine box_step ?hg (N := 13) ?hd (cs := #[.int .i64 0, .slice none 0 0, .slice none 0 0, .slice none 0 0]) (t := 46) ?hr ?_; (case hd => rfl); (case hg => rfl); (case hr => first | (go_simp; done) | (go_simp; rfl))
        intro ac hg w60 hbox hb
        have n0_ := Aside0.mk (Kd.V_below (Kd.V_elderB (zV aH.out) ac (Nat.le_of_eq hg.symm)) hb)
        have n1_ := Aside0.mk (Kd.V_below (Kd.V_elderB (zV aI.out) ac (Nat.le_of_eq hg.symm)) hb)
        have n2_ := Aside0.mk (Kd.V_below (Kd.V_elderB (zV aJ.out) ac (Nat.le_of_eq hg.symm)) hb)
        have n3_ := Aside0.mk (blk_below (g := ao) (o := .cells #[.int .i64 am, .slice (some ap) aa.length aq, .slice ar ak.length au, .slice av an.length aw, .int .i64 ab, .int .i64 aN, .int .i64 aO, .int .u8 aK] 48 (0, 0)) (zB al.out) hb)
        have n4_ := Aside0.mk (blk_below (g := aj) (o := .cells #[.int .i64 am, .slice (some ap) aa.length aq, .slice ar ak.length au, .slice av an.length aw] 46 (0, 0)) (zB ae.out) hb)
        have n5_ := Aside0.mk (blk_below (g := ah) (o := .cells #[.int .i64 ((rd_T51 aa ab).f0), .int .i64 ((rd_T51 aa ab).f1), .int .u32 ((rd_T51 aa ab).f2), .string ((rd_T51 aa ab).f3), .int .u64 ((rd_T51 aa ab).f4), .int .u64 ((rd_T51 aa ab).f5)] 51 (0, 0)) (zB ad.out) hb)
        have n6_ := Aside0.mk (blk_below (g := ai) (o := .cells #[.int .u64 az, .int .u64 aD, .int .i64 aE] 24 (0, 0)) (zB af.out) hb)
        have n7_ := Aside0.mk (blk_below (g := ag) (o := .cells #[.int .i64 bb, .slice bk aF.length bj, .slice bl aS.length bm, .slice bn aT.length bo] 46 (0, 0)) (zB ax.out) hb)
        have n8_ := Aside0.mk (below_step (by repeat (first | (with_reducible first | exact HB.out | apply pA | apply pN | apply pD | refine pS ?_ aA.out | refine pS ?_ aB.out | refine pS ?_ aG.out | refine pS ?_ aL.out | refine pS ?_ aQ.out) | exact HB.out)) hb)
        have n9_ := Aside0.mk (hbox)
        have n10_ := Aside0.mk ((by rw [hg]; exact (below_size (by repeat (first | (with_reducible first | exact HB.out | apply pA | apply pN | apply pD | refine pS ?_ aA.out | refine pS ?_ aB.out | refine pS ?_ aG.out | refine pS ?_ aL.out | refine pS ?_ aQ.out) | exact HB.out))) : w.heap.size ≤ ac))
        have n11_ := Aside0.mk ((by rw [hg]; exact (below_size (by repeat (first | (with_reducible first | exact HB.out | apply pA | apply pN | apply pD | refine pS ?_ aA.out | refine pS ?_ aB.out | refine pS ?_ aG.out | refine pS ?_ aL.out | refine pS ?_ aQ.out) | exact HB.out))) : w.heap.size ≤ ac))
        have n12_ := Aside0.mk ((by rw [hg]; exact Nat.ne_of_lt (blk_lt (g := ao) (o := .cells #[.int .i64 am, .slice (some ap) aa.length aq, .slice ar ak.length au, .slice av an.length aw, .int .i64 ab, .int .i64 aN, .int .i64 aO, .int .u8 aK] 48 (0, 0)) (zB al.out)) : ao ≠ ac))
        have n13_ := Aside0.mk ((by rw [hg]; exact Nat.ne_of_gt (blk_lt (g := ao) (o := .cells #[.int .i64 am, .slice (some ap) aa.length aq, .slice ar ak.length au, .slice av an.length aw, .int .i64 ab, .int .i64 aN, .int .i64 aO, .int .u8 aK] 48 (0, 0)) (zB al.out)) : ac ≠ ao))
        have n14_ := Aside0.mk ((by rw [hg]; exact Nat.ne_of_lt (blk_lt (g := aj) (o := .cells #[.int .i64 am, .slice (some ap) aa.length aq, .slice ar ak.length au, .slice av an.length aw] 46 (0, 0)) (zB ae.out)) : aj ≠ ac))
        have n15_ := Aside0.mk ((by rw [hg]; exact Nat.ne_of_gt (blk_lt (g := aj) (o := .cells #[.int .i64 am, .slice (some ap) aa.length aq, .slice ar ak.length au, .slice av an.length aw] 46 (0, 0)) (zB ae.out)) : ac ≠ aj))
        have n16_ := Aside0.mk ((by rw [hg]; exact Nat.ne_of_lt (blk_lt (g := ah) (o := .cells #[.int .i64 ((rd_T51 aa ab).f0), .int .i64 ((rd_T51 aa ab).f1), .int .u32 ((rd_T51 aa ab).f2), .string ((rd_T51 aa ab).f3), .int .u64 ((rd_T51 aa ab).f4), .int .u64 ((rd_T51 aa ab).f5)] 51 (0, 0)) (zB ad.out)) : ah ≠ ac))
        have n17_ := Aside0.mk ((by rw [hg]; exact Nat.ne_of_gt (blk_lt (g := ah) (o := .cells #[.int .i64 ((rd_T51 aa ab).f0), .int .i64 ((rd_T51 aa ab).f1), .int .u32 ((rd_T51 aa ab).f2), .string ((rd_T51 aa ab).f3), .int .u64 ((rd_T51 aa ab).f4), .int .u64 ((rd_T51 aa ab).f5)] 51 (0, 0)) (zB ad.out)) : ac ≠ ah))
        have n18_ := Aside0.mk ((by rw [hg]; exact Nat.ne_of_lt (blk_lt (g := ai) (o := .cells #[.int .u64 az, .int .u64 aD, .int .i64 aE] 24 (0, 0)) (zB af.out)) : ai ≠ ac))
        have n19_ := Aside0.mk ((by rw [hg]; exact Nat.ne_of_gt (blk_lt (g := ai) (o := .cells #[.int .u64 az, .int .u64 aD, .int .i64 aE] 24 (0, 0)) (zB af.out)) : ac ≠ ai))
        have n20_ := Aside0.mk ((by rw [hg]; exact Nat.ne_of_lt (blk_lt (g := ag) (o := .cells #[.int .i64 bb, .slice bk aF.length bj, .slice bl aS.length bm, .slice bn aT.length bo] 46 (0, 0)) (zB ax.out)) : ag ≠ ac))
        have n21_ := Aside0.mk ((by rw [hg]; exact Nat.ne_of_gt (blk_lt (g := ag) (o := .cells #[.int .i64 bb, .slice bk aF.length bj, .slice bl aS.length bm, .slice bn aT.length bo] 46 (0, 0)) (zB ax.out)) : ac ≠ ag))
        clear aH
        clear aI
        clear aJ
        clear al
        clear ae
        clear ad
        clear af
        clear ax
        clear HB
        have aH := n0_
        have aI := n1_
        have aJ := n2_
        have al := n3_
        have ae := n4_
        have ad := n5_
        have af := n6_
        have ax := n7_
        have HB := n8_
        have aC := n9_
        have bD := n10_
        have br := n11_
        have bB := n12_
        have bO := n13_
        have bt := n14_
        have bI := n15_
        have bs := n16_
        have bP := n17_
        have bw := n18_
        have bQ := n19_
        have bC := n20_
        have bR := n21_
        clear n0_ n1_ n2_ n3_ n4_ n5_ n6_ n7_ n8_ n9_ n10_ n11_ n12_ n13_ n14_ n15_ n16_ n17_ n18_ n19_ n20_ n21_
        clear hb hbox hg
        refine hK.out _ _ ⟨(blk_cell ae.out 0).trans rfl, (blk_cell ae.out 1).trans rfl, (blk_cell ae.out 2).trans rfl, (blk_cell ae.out 3).trans rfl, (blk_cell af.out 0).trans rfl, (blk_cell af.out 1).trans rfl, (blk_cell af.out 2).trans rfl, (blk_cell ad.out 0).trans rfl, (blk_cell ad.out 1).trans rfl, (blk_cell ad.out 2).trans rfl, (blk_cell ad.out 3).trans rfl, (blk_cell ad.out 4).trans rfl, (blk_cell ad.out 5).trans rfl⟩ (fun hHeld => ?_)
        clear hK K
        refine norm_ (a' := ?_) ?_ ?_
        rotate_left
        ·show Act.put _ (some 13) _ = _
         simp only [Act.put, sT, s0, s1, i64_w, i32_w]
         rfl
        refine one_ (i := 6) (N := some 70) #[oI, oI, oI, oI, oI, oI, oI, oO, oO, oO, oO, oI, oO, oO] rfl rfl (one_of HT_.out (by kernel_rfl)) (by decide) (fun K hK => ?_)
        refine goes_ Try.func20 (by kernel_rfl) rfl #[.agg #[.int .u64 az, .int .u64 aD, .int .i64 aE], .int .i64 ((rd_T51 aa ab).f0), .int .i64 (wrap64 (aK))] (by rfl) rfl rfl (by (try simp only [List.map_toArray, List.map_cons, List.map_nil]); first | done | rfl | (simp only [List.length_drop, List.length_take]; rfl)) ?_
        with_reducible refine (meter_Stop.calls az aD aE ((rd_T51 aa ab).f0) (wrap64 (aK)) cf cg ch ci cj ck cl cm cn _ ep.out).mono ?_
        rintro e w61 ⟨rfl, hb⟩
        refine ⟨_, rfl, ?_⟩
        have n0_ := Aside0.mk (Kd.V_below (zV aH.out) hb)
        have n1_ := Aside0.mk (Kd.V_below (zV aI.out) hb)
        have n2_ := Aside0.mk (Kd.V_below (zV aJ.out) hb)
        have n3_ := Aside0.mk (blk_below (g := ao) (o := .cells #[.int .i64 am, .slice (some ap) aa.length aq, .slice ar ak.length au, .slice av an.length aw, .int .i64 ab, .int .i64 aN, .int .i64 aO, .int .u8 aK] 48 (0, 0)) (zB al.out) hb)
        have n4_ := Aside0.mk (blk_below (g := aj) (o := .cells #[.int .i64 am, .slice (some ap) aa.length aq, .slice ar ak.length au, .slice av an.length aw] 46 (0, 0)) (zB ae.out) hb)
        have n5_ := Aside0.mk (blk_below (g := ah) (o := .cells #[.int .i64 ((rd_T51 aa ab).f0), .int .i64 ((rd_T51 aa ab).f1), .int .u32 ((rd_T51 aa ab).f2), .string ((rd_T51 aa ab).f3), .int .u64 ((rd_T51 aa ab).f4), .int .u64 ((rd_T51 aa ab).f5)] 51 (0, 0)) (zB ad.out) hb)
        have n6_ := Aside0.mk (blk_below (g := ai) (o := .cells #[.int .u64 az, .int .u64 aD, .int .i64 aE] 24 (0, 0)) (zB af.out) hb)
        have n7_ := Aside0.mk (blk_below (g := ag) (o := .cells #[.int .i64 bb, .slice bk aF.length bj, .slice bl aS.length bm, .slice bn aT.length bo] 46 (0, 0)) (zB ax.out) hb)
        have n8_ := Aside0.mk (blk_below (g := ac) (o := .cells #[.int .i64 0, .slice none 0 0, .slice none 0 0, .slice none 0 0] 46 (0, 0)) (zB aC.out) hb)
        have n9_ := Aside0.mk (below_step (by repeat (first | (with_reducible first | exact HB.out | apply pA | apply pN | apply pD | refine pS ?_ aA.out | refine pS ?_ aB.out | refine pS ?_ aG.out | refine pS ?_ aL.out | refine pS ?_ aQ.out | refine pS ?_ br.out) | exact HB.out)) hb)
        clear aH
        clear aI
        clear aJ
        clear al
        clear ae
        clear ad
        clear af
        clear ax
        clear aC
        clear HB
        have aH := n0_
        have aI := n1_
        have aJ := n2_
        have al := n3_
        have ae := n4_
        have ad := n5_
        have af := n6_
        have ax := n7_
        have aC := n8_
        have HB := n9_
        clear n0_ n1_ n2_ n3_ n4_ n5_ n6_ n7_ n8_ n9_
        (try clear hb)
        (try clear hb2)
        (try clear hk)
        (try clear hi)
        refine hK.out _ _ ⟨(blk_cell ae.out 0).trans rfl, (blk_cell ae.out 1).trans rfl, (blk_cell ae.out 2).trans rfl, (blk_cell ae.out 3).trans rfl, (blk_cell af.out 0).trans rfl, (blk_cell af.out 1).trans rfl, (blk_cell af.out 2).trans rfl, (blk_cell ad.out 0).trans rfl, (blk_cell ad.out 1).trans rfl, (blk_cell ad.out 2).trans rfl, (blk_cell ad.out 3).trans rfl, (blk_cell ad.out 4).trans rfl, (blk_cell ad.out 5).trans rfl⟩ (fun hHeld => ?_)
        clear hK K
        refine norm_ (a' := ?_) ?_ ?_
        rotate_left
        ·show Act.put _ (some 70) _ = _
         simp only [Act.put, sT, s0, s1, i64_w, i32_w]
         rfl
        refine one_ (i := 7) (N := some 71) #[oI, oI, oI, oI, oI, oI, oI, oI, oO, oO, oO, oI, oO, oO] rfl rfl (one_of HT_.out (by kernel_rfl)) (by decide) (fun K hK => ?_)
        refine goes_ Try.func23 (by kernel_rfl) rfl #[.agg #[.int .i64 am, .slice (some ap) aa.length aq, .slice ar ak.length au, .slice av an.length aw], .agg #[.int .i64 cf, .int .i64 cg, .int .i64 ch, .int .u32 ci, .string cj, .int .u64 ck, .int .u64 cl, .int .i64 cm, .int .i64 cn]] (by rfl) rfl rfl (by (try simp only [List.map_toArray, List.map_cons, List.map_nil]); first | done | rfl | (simp only [List.length_drop, List.length_take]; rfl)) ?_
        with_reducible refine (portreeveref04_Apply.calls bu am (fun k_ => k_ < w.heap.size) _ _ aa (fun k_ => k_ < w.heap.size) _ _ ak (fun k_ => k_ < w.heap.size) _ _ an cf cg ch ci cj ck cl cm cn aP aM ay aR bY _ ?side1 ?side2 ?side3 d6.out).mono ?_
        (case side1 => exact Kd.V_mk HC0_1.out (Kd.F_below (Kd.C_F k51_heap bX.out) (by repeat (first | (with_reducible first | exact HB.out | apply pA | apply pN | apply pD | refine pS ?_ aA.out | refine pS ?_ aB.out | refine pS ?_ aG.out | refine pS ?_ aL.out | refine pS ?_ aQ.out | refine pS ?_ br.out) | exact HB.out))))
        (case side2 => exact Kd.V_mk HC0_2.out (Kd.F_below (Kd.C_F k56_heap bZ.out) (by repeat (first | (with_reducible first | exact HB.out | apply pA | apply pN | apply pD | refine pS ?_ aA.out | refine pS ?_ aB.out | refine pS ?_ aG.out | refine pS ?_ aL.out | refine pS ?_ aQ.out | refine pS ?_ br.out) | exact HB.out))))
        (case side3 => exact Kd.V_mk HC0_3.out (Kd.F_below (Kd.C_F k68_heap b0.out) (by repeat (first | (with_reducible first | exact HB.out | apply pA | apply pN | apply pD | refine pS ?_ aA.out | refine pS ?_ aB.out | refine pS ?_ aG.out | refine pS ?_ aL.out | refine pS ?_ aQ.out | refine pS ?_ br.out) | exact HB.out))))
        rintro e w62 ⟨v469, v472, v475, rfl, ho0, ho1, ho2, hb⟩
        refine ⟨_, rfl, ?_⟩
        have n0_ := Aside0.mk (Kd.V_below (zV aH.out) hb)
        have n1_ := Aside0.mk (Kd.V_below (zV aI.out) hb)
        have n2_ := Aside0.mk (Kd.V_below (zV aJ.out) hb)
        have n3_ := Aside0.mk (Kd.V_lower (Kd.V_mono (ok' := fun k_ => k_ ≠ ao ∧ k_ ≠ aj ∧ k_ ≠ ah ∧ k_ ≠ ai ∧ k_ ≠ ag ∧ k_ ≠ ac) ho0 (fun k_ hk_ => ⟨Or.elim hk_ (fun hs_ => Or.elim hs_ (fun hs_ => fun e_ => Nat.not_le.2 hs_ (by rw [e_]; exact be.out)) (fun hs_ => Or.elim hs_ (fun hs_ => fun e_ => Nat.not_le.2 hs_ (by rw [e_]; exact be.out)) (fun hs_ => fun e_ => Nat.not_le.2 hs_ (by rw [e_]; exact be.out)))) (fun hn_ => (Kd.freshB (g := ao) (o := .cells #[.int .i64 am, .slice (some ap) aa.length aq, .slice ar ak.length au, .slice av an.length aw, .int .i64 ab, .int .i64 aN, .int .i64 aO, .int .u8 aK] 48 (0, 0)) (zB al.out) k_ hn_)), Or.elim hk_ (fun hs_ => Or.elim hs_ (fun hs_ => fun e_ => Nat.not_le.2 hs_ (by rw [e_]; exact bf.out)) (fun hs_ => Or.elim hs_ (fun hs_ => fun e_ => Nat.not_le.2 hs_ (by rw [e_]; exact bf.out)) (fun hs_ => fun e_ => Nat.not_le.2 hs_ (by rw [e_]; exact bf.out)))) (fun hn_ => (Kd.freshB (g := aj) (o := .cells #[.int .i64 am, .slice (some ap) aa.length aq, .slice ar ak.length au, .slice av an.length aw] 46 (0, 0)) (zB ae.out) k_ hn_)), Or.elim hk_ (fun hs_ => Or.elim hs_ (fun hs_ => fun e_ => Nat.not_le.2 hs_ (by rw [e_]; exact bg.out)) (fun hs_ => Or.elim hs_ (fun hs_ => fun e_ => Nat.not_le.2 hs_ (by rw [e_]; exact bg.out)) (fun hs_ => fun e_ => Nat.not_le.2 hs_ (by rw [e_]; exact bg.out)))) (fun hn_ => (Kd.freshB (g := ah) (o := .cells #[.int .i64 ((rd_T51 aa ab).f0), .int .i64 ((rd_T51 aa ab).f1), .int .u32 ((rd_T51 aa ab).f2), .string ((rd_T51 aa ab).f3), .int .u64 ((rd_T51 aa ab).f4), .int .u64 ((rd_T51 aa ab).f5)] 51 (0, 0)) (zB ad.out) k_ hn_)), Or.elim hk_ (fun hs_ => Or.elim hs_ (fun hs_ => fun e_ => Nat.not_le.2 hs_ (by rw [e_]; exact bh.out)) (fun hs_ => Or.elim hs_ (fun hs_ => fun e_ => Nat.not_le.2 hs_ (by rw [e_]; exact bh.out)) (fun hs_ => fun e_ => Nat.not_le.2 hs_ (by rw [e_]; exact bh.out)))) (fun hn_ => (Kd.freshB (g := ai) (o := .cells #[.int .u64 az, .int .u64 aD, .int .i64 aE] 24 (0, 0)) (zB af.out) k_ hn_)), Or.elim hk_ (fun hs_ => Or.elim hs_ (fun hs_ => fun e_ => Nat.not_le.2 hs_ (by rw [e_]; exact bi.out)) (fun hs_ => Or.elim hs_ (fun hs_ => fun e_ => Nat.not_le.2 hs_ (by rw [e_]; exact bi.out)) (fun hs_ => fun e_ => Nat.not_le.2 hs_ (by rw [e_]; exact bi.out)))) (fun hn_ => (Kd.freshB (g := ag) (o := .cells #[.int .i64 bb, .slice bk aF.length bj, .slice bl aS.length bm, .slice bn aT.length bo] 46 (0, 0)) (zB ax.out) k_ hn_)), Or.elim hk_ (fun hs_ => Or.elim hs_ (fun hs_ => fun e_ => Nat.not_le.2 hs_ (by rw [e_]; exact bD.out)) (fun hs_ => Or.elim hs_ (fun hs_ => fun e_ => Nat.not_le.2 hs_ (by rw [e_]; exact bD.out)) (fun hs_ => fun e_ => Nat.not_le.2 hs_ (by rw [e_]; exact bD.out)))) (fun hn_ => (Kd.freshB (g := ac) (o := .cells #[.int .i64 0, .slice none 0 0, .slice none 0 0, .slice none 0 0] 46 (0, 0)) (zB aC.out) k_ hn_))⟩)) (below_size (by repeat (first | (with_reducible first | exact HB.out | apply pA | apply pN | apply pD | refine pS ?_ aA.out | refine pS ?_ aB.out | refine pS ?_ aG.out | refine pS ?_ aL.out | refine pS ?_ aQ.out | refine pS ?_ br.out) | exact HB.out))))
        have n4_ := Aside0.mk (Kd.V_lower (Kd.V_mono (ok' := fun k_ => k_ ≠ ao ∧ k_ ≠ aj ∧ k_ ≠ ah ∧ k_ ≠ ai ∧ k_ ≠ ag ∧ k_ ≠ ac) ho1 (fun k_ hk_ => ⟨Or.elim hk_ (fun hs_ => Or.elim hs_ (fun hs_ => fun e_ => Nat.not_le.2 hs_ (by rw [e_]; exact be.out)) (fun hs_ => Or.elim hs_ (fun hs_ => fun e_ => Nat.not_le.2 hs_ (by rw [e_]; exact be.out)) (fun hs_ => fun e_ => Nat.not_le.2 hs_ (by rw [e_]; exact be.out)))) (fun hn_ => (Kd.freshB (g := ao) (o := .cells #[.int .i64 am, .slice (some ap) aa.length aq, .slice ar ak.length au, .slice av an.length aw, .int .i64 ab, .int .i64 aN, .int .i64 aO, .int .u8 aK] 48 (0, 0)) (zB al.out) k_ hn_)), Or.elim hk_ (fun hs_ => Or.elim hs_ (fun hs_ => fun e_ => Nat.not_le.2 hs_ (by rw [e_]; exact bf.out)) (fun hs_ => Or.elim hs_ (fun hs_ => fun e_ => Nat.not_le.2 hs_ (by rw [e_]; exact bf.out)) (fun hs_ => fun e_ => Nat.not_le.2 hs_ (by rw [e_]; exact bf.out)))) (fun hn_ => (Kd.freshB (g := aj) (o := .cells #[.int .i64 am, .slice (some ap) aa.length aq, .slice ar ak.length au, .slice av an.length aw] 46 (0, 0)) (zB ae.out) k_ hn_)), Or.elim hk_ (fun hs_ => Or.elim hs_ (fun hs_ => fun e_ => Nat.not_le.2 hs_ (by rw [e_]; exact bg.out)) (fun hs_ => Or.elim hs_ (fun hs_ => fun e_ => Nat.not_le.2 hs_ (by rw [e_]; exact bg.out)) (fun hs_ => fun e_ => Nat.not_le.2 hs_ (by rw [e_]; exact bg.out)))) (fun hn_ => (Kd.freshB (g := ah) (o := .cells #[.int .i64 ((rd_T51 aa ab).f0), .int .i64 ((rd_T51 aa ab).f1), .int .u32 ((rd_T51 aa ab).f2), .string ((rd_T51 aa ab).f3), .int .u64 ((rd_T51 aa ab).f4), .int .u64 ((rd_T51 aa ab).f5)] 51 (0, 0)) (zB ad.out) k_ hn_)), Or.elim hk_ (fun hs_ => Or.elim hs_ (fun hs_ => fun e_ => Nat.not_le.2 hs_ (by rw [e_]; exact bh.out)) (fun hs_ => Or.elim hs_ (fun hs_ => fun e_ => Nat.not_le.2 hs_ (by rw [e_]; exact bh.out)) (fun hs_ => fun e_ => Nat.not_le.2 hs_ (by rw [e_]; exact bh.out)))) (fun hn_ => (Kd.freshB (g := ai) (o := .cells #[.int .u64 az, .int .u64 aD, .int .i64 aE] 24 (0, 0)) (zB af.out) k_ hn_)), Or.elim hk_ (fun hs_ => Or.elim hs_ (fun hs_ => fun e_ => Nat.not_le.2 hs_ (by rw [e_]; exact bi.out)) (fun hs_ => Or.elim hs_ (fun hs_ => fun e_ => Nat.not_le.2 hs_ (by rw [e_]; exact bi.out)) (fun hs_ => fun e_ => Nat.not_le.2 hs_ (by rw [e_]; exact bi.out)))) (fun hn_ => (Kd.freshB (g := ag) (o := .cells #[.int .i64 bb, .slice bk aF.length bj, .slice bl aS.length bm, .slice bn aT.length bo] 46 (0, 0)) (zB ax.out) k_ hn_)), Or.elim hk_ (fun hs_ => Or.elim hs_ (fun hs_ => fun e_ => Nat.not_le.2 hs_ (by rw [e_]; exact bD.out)) (fun hs_ => Or.elim hs_ (fun hs_ => fun e_ => Nat.not_le.2 hs_ (by rw [e_]; exact bD.out)) (fun hs_ => fun e_ => Nat.not_le.2 hs_ (by rw [e_]; exact bD.out)))) (fun hn_ => (Kd.freshB (g := ac) (o := .cells #[.int .i64 0, .slice none 0 0, .slice none 0 0, .slice none 0 0] 46 (0, 0)) (zB aC.out) k_ hn_))⟩)) (below_size (by repeat (first | (with_reducible first | exact HB.out | apply pA | apply pN | apply pD | refine pS ?_ aA.out | refine pS ?_ aB.out | refine pS ?_ aG.out | refine pS ?_ aL.out | refine pS ?_ aQ.out | refine pS ?_ br.out) | exact HB.out))))
        have n5_ := Aside0.mk (Kd.V_lower (Kd.V_mono (ok' := fun k_ => k_ ≠ ao ∧ k_ ≠ aj ∧ k_ ≠ ah ∧ k_ ≠ ai ∧ k_ ≠ ag ∧ k_ ≠ ac) ho2 (fun k_ hk_ => ⟨Or.elim hk_ (fun hs_ => Or.elim hs_ (fun hs_ => fun e_ => Nat.not_le.2 hs_ (by rw [e_]; exact be.out)) (fun hs_ => Or.elim hs_ (fun hs_ => fun e_ => Nat.not_le.2 hs_ (by rw [e_]; exact be.out)) (fun hs_ => fun e_ => Nat.not_le.2 hs_ (by rw [e_]; exact be.out)))) (fun hn_ => (Kd.freshB (g := ao) (o := .cells #[.int .i64 am, .slice (some ap) aa.length aq, .slice ar ak.length au, .slice av an.length aw, .int .i64 ab, .int .i64 aN, .int .i64 aO, .int .u8 aK] 48 (0, 0)) (zB al.out) k_ hn_)), Or.elim hk_ (fun hs_ => Or.elim hs_ (fun hs_ => fun e_ => Nat.not_le.2 hs_ (by rw [e_]; exact bf.out)) (fun hs_ => Or.elim hs_ (fun hs_ => fun e_ => Nat.not_le.2 hs_ (by rw [e_]; exact bf.out)) (fun hs_ => fun e_ => Nat.not_le.2 hs_ (by rw [e_]; exact bf.out)))) (fun hn_ => (Kd.freshB (g := aj) (o := .cells #[.int .i64 am, .slice (some ap) aa.length aq, .slice ar ak.length au, .slice av an.length aw] 46 (0, 0)) (zB ae.out) k_ hn_)), Or.elim hk_ (fun hs_ => Or.elim hs_ (fun hs_ => fun e_ => Nat.not_le.2 hs_ (by rw [e_]; exact bg.out)) (fun hs_ => Or.elim hs_ (fun hs_ => fun e_ => Nat.not_le.2 hs_ (by rw [e_]; exact bg.out)) (fun hs_ => fun e_ => Nat.not_le.2 hs_ (by rw [e_]; exact bg.out)))) (fun hn_ => (Kd.freshB (g := ah) (o := .cells #[.int .i64 ((rd_T51 aa ab).f0), .int .i64 ((rd_T51 aa ab).f1), .int .u32 ((rd_T51 aa ab).f2), .string ((rd_T51 aa ab).f3), .int .u64 ((rd_T51 aa ab).f4), .int .u64 ((rd_T51 aa ab).f5)] 51 (0, 0)) (zB ad.out) k_ hn_)), Or.elim hk_ (fun hs_ => Or.elim hs_ (fun hs_ => fun e_ => Nat.not_le.2 hs_ (by rw [e_]; exact bh.out)) (fun hs_ => Or.elim hs_ (fun hs_ => fun e_ => Nat.not_le.2 hs_ (by rw [e_]; exact bh.out)) (fun hs_ => fun e_ => Nat.not_le.2 hs_ (by rw [e_]; exact bh.out)))) (fun hn_ => (Kd.freshB (g := ai) (o := .cells #[.int .u64 az, .int .u64 aD, .int .i64 aE] 24 (0, 0)) (zB af.out) k_ hn_)), Or.elim hk_ (fun hs_ => Or.elim hs_ (fun hs_ => fun e_ => Nat.not_le.2 hs_ (by rw [e_]; exact bi.out)) (fun hs_ => Or.elim hs_ (fun hs_ => fun e_ => Nat.not_le.2 hs_ (by rw [e_]; exact bi.out)) (fun hs_ => fun e_ => Nat.not_le.2 hs_ (by rw [e_]; exact bi.out)))) (fun hn_ => (Kd.freshB (g := ag) (o := .cells #[.int .i64 bb, .slice bk aF.length bj, .slice bl aS.length bm, .slice bn aT.length bo] 46 (0, 0)) (zB ax.out) k_ hn_)), Or.elim hk_ (fun hs_ => Or.elim hs_ (fun hs_ => fun e_ => Nat.not_le.2 hs_ (by rw [e_]; exact bD.out)) (fun hs_ => Or.elim hs_ (fun hs_ => fun e_ => Nat.not_le.2 hs_ (by rw [e_]; exact bD.out)) (fun hs_ => fun e_ => Nat.not_le.2 hs_ (by rw [e_]; exact bD.out)))) (fun hn_ => (Kd.freshB (g := ac) (o := .cells #[.int .i64 0, .slice none 0 0, .slice none 0 0, .slice none 0 0] 46 (0, 0)) (zB aC.out) k_ hn_))⟩)) (below_size (by repeat (first | (with_reducible first | exact HB.out | apply pA | apply pN | apply pD | refine pS ?_ aA.out | refine pS ?_ aB.out | refine pS ?_ aG.out | refine pS ?_ aL.out | refine pS ?_ aQ.out | refine pS ?_ br.out) | exact HB.out))))
        have n6_ := Aside0.mk (blk_below (g := ao) (o := .cells #[.int .i64 am, .slice (some ap) aa.length aq, .slice ar ak.length au, .slice av an.length aw, .int .i64 ab, .int .i64 aN, .int .i64 aO, .int .u8 aK] 48 (0, 0)) (zB al.out) hb)
        have n7_ := Aside0.mk (blk_below (g := aj) (o := .cells #[.int .i64 am, .slice (some ap) aa.length aq, .slice ar ak.length au, .slice av an.length aw] 46 (0, 0)) (zB ae.out) hb)
        have n8_ := Aside0.mk (blk_below (g := ah) (o := .cells #[.int .i64 ((rd_T51 aa ab).f0), .int .i64 ((rd_T51 aa ab).f1), .int .u32 ((rd_T51 aa ab).f2), .string ((rd_T51 aa ab).f3), .int .u64 ((rd_T51 aa ab).f4), .int .u64 ((rd_T51 aa ab).f5)] 51 (0, 0)) (zB ad.out) hb)
        have n9_ := Aside0.mk (blk_below (g := ai) (o := .cells #[.int .u64 az, .int .u64 aD, .int .i64 aE] 24 (0, 0)) (zB af.out) hb)
        have n10_ := Aside0.mk (blk_below (g := ag) (o := .cells #[.int .i64 bb, .slice bk aF.length bj, .slice bl aS.length bm, .slice bn aT.length bo] 46 (0, 0)) (zB ax.out) hb)
        have n11_ := Aside0.mk (blk_below (g := ac) (o := .cells #[.int .i64 0, .slice none 0 0, .slice none 0 0, .slice none 0 0] 46 (0, 0)) (zB aC.out) hb)
        have n12_ := Aside0.mk (below_step (by repeat (first | (with_reducible first | exact HB.out | apply pA | apply pN | apply pD | refine pS ?_ aA.out | refine pS ?_ aB.out | refine pS ?_ aG.out | refine pS ?_ aL.out | refine pS ?_ aQ.out | refine pS ?_ br.out) | exact HB.out)) hb)
        clear aH
        clear aI
        clear aJ
        clear al
        clear ae
        clear ad
        clear af
        clear ax
        clear aC
        clear HB
        have aH := n0_
        have aI := n1_
        have aJ := n2_
        have bc := n3_
        have a8 := n4_
        have bd := n5_
        have al := n6_
        have ae := n7_
        have ad := n8_
        have af := n9_
        have ax := n10_
        have aC := n11_
        have HB := n12_
        clear n0_ n1_ n2_ n3_ n4_ n5_ n6_ n7_ n8_ n9_ n10_ n11_ n12_
        (try clear hb)
        (try clear hb2)
        (try clear hk)
        (try clear hi)
        (try clear ho0)
        (try clear ho1)
        (try clear ho2)
        refine hK.out _ _ ⟨(blk_cell ae.out 0).trans rfl, (blk_cell ae.out 1).trans rfl, (blk_cell ae.out 2).trans rfl, (blk_cell ae.out 3).trans rfl, (blk_cell af.out 0).trans rfl, (blk_cell af.out 1).trans rfl, (blk_cell af.out 2).trans rfl, (blk_cell ad.out 0).trans rfl, (blk_cell ad.out 1).trans rfl, (blk_cell ad.out 2).trans rfl, (blk_cell ad.out 3).trans rfl, (blk_cell ad.out 4).trans rfl, (blk_cell ad.out 5).trans rfl⟩ (fun hHeld => ?_)
        clear hK K
        refine norm_ (a' := ?_) ?_ ?_
        rotate_left
        ·show Act.put _ (some 71) _ = _
         simp only [Act.put, sT, s0, s1, i64_w, i32_w]
         rfl
        refine pure_ (i := 8) (N := some 63) (v := ?_) (a' := ?_) #[oI, oI, oI, oI, oI, oI, oI, oI, oI, oO, oO, oI, oO, oO] rfl rfl (any_of HT_.out (by kernel_rfl)) (fun _ _ _ h => h) (Or.inl ⟨by rfl, ?_⟩) ?_ ?_
        rotate_left
        ·intro w'
         go_simp
         with_reducible rfl
        rotate_left
        ·simp only [Act.put, sT, s0, s1, i64_w, i32_w]
         rfl
        refine pure_ (i := 9) (N := some 72) (v := ?_) (a' := ?_) #[oI, oI, oI, oI, oI, oI, oI, oI, oI, oI, oO, oI, oO, oO] rfl rfl (any_of HT_.out (by kernel_rfl)) (fun _ _ _ h => h) (Or.inl ⟨by rfl, ?_⟩) ?_ ?_
        rotate_left
        ·intro w'
         go_simp
         with_reducible rfl
        rotate_left
        ·simp only [Act.put, sT, s0, s1, i64_w, i32_w]
         rfl
        refine pure_ (i := 10) (N := some 73) (v := ?_) (a' := ?_) #[oI, oI, oI, oI, oI, oI, oI, oI, oI, oI, oI, oI, oO, oO] rfl rfl (any_of HT_.out (by kernel_rfl)) (fun _ _ _ h => h) (Or.inl ⟨by rfl, ?_⟩) ?_ ?_
        rotate_left
        ·intro w'
         go_simp
         with_reducible rfl
        rotate_left
        ·simp only [Act.put, sT, s0, s1, i64_w, i32_w]
         rfl
        exact norm_ (by simp only [putAll, Act.put, sT, s0, s1]) (hCont (v469, v472, v475, ac) _ ⟨hHeld, (zV (Kd.V_mono aH.out (fun _ hk => ⟨hk.1.1, ⟨hk.1.2.1, ⟨hk.1.2.2.1, ⟨hk.1.2.2.2.1, ⟨hk.1.2.2.2.2, hk.2⟩⟩⟩⟩⟩))), (zV (Kd.V_mono aI.out (fun _ hk => ⟨hk.1.1, ⟨hk.1.2.1, ⟨hk.1.2.2.1, ⟨hk.1.2.2.2.1, ⟨hk.1.2.2.2.2, hk.2⟩⟩⟩⟩⟩))), (zV (Kd.V_mono aJ.out (fun _ hk => ⟨hk.1.1, ⟨hk.1.2.1, ⟨hk.1.2.2.1, ⟨hk.1.2.2.2.1, ⟨hk.1.2.2.2.2, hk.2⟩⟩⟩⟩⟩))), (zV bc.out), (zV a8.out), (zV bd.out), (zB al.out), (zB ae.out), (zB ad.out), (zB af.out), (zB ax.out), (zB aC.out), bD.out, br.out, bB.out, bO.out, bt.out, bI.out, bs.out, bP.out, bw.out, bQ.out, bC.out, bR.out, (by repeat (first | (with_reducible first | exact HB.out | apply pA | apply pN | apply pD | refine pS ?_ aA.out | refine pS ?_ aB.out | refine pS ?_ aG.out | refine pS ?_ aL.out | refine pS ?_ aQ.out | refine pS ?_ br.out) | exact HB.out))⟩)
      rintro ⟨v469, v472, v475, ac⟩ w63 ⟨hS_, h0_, h1_, h2_, h3_, h4_, h5_, h6_, h7_, h8_, h9_, h10_, h11_, h12_, h13_, h14_, h15_, h16_, h17_, h18_, h19_, h20_, h21_, h22_, h23_, h24_⟩
      have n0_ : Aside0 (Kd.V k51 51 w63 w.heap.size (fun k_ => k_ ≠ ao ∧ k_ ≠ aj ∧ k_ ≠ ah ∧ k_ ≠ ai ∧ k_ ≠ ag ∧ k_ ≠ ac) (.slice bk aF.length bj) aF) := ⟨h0_⟩
      have n1_ : Aside0 (Kd.V k56 56 w63 w.heap.size (fun k_ => k_ ≠ ao ∧ k_ ≠ aj ∧ k_ ≠ ah ∧ k_ ≠ ai ∧ k_ ≠ ag ∧ k_ ≠ ac) (.slice bl aS.length bm) aS) := ⟨h1_⟩
      have n2_ : Aside0 (Kd.V k68 68 w63 w.heap.size (fun k_ => k_ ≠ ao ∧ k_ ≠ aj ∧ k_ ≠ ah ∧ k_ ≠ ai ∧ k_ ≠ ag ∧ k_ ≠ ac) (.slice bn aT.length bo) aT) := ⟨h2_⟩
      have n3_ : Aside0 (Kd.V k51 51 w63 w.heap.size (fun k_ => k_ ≠ ao ∧ k_ ≠ aj ∧ k_ ≠ ah ∧ k_ ≠ ai ∧ k_ ≠ ag ∧ k_ ≠ ac) v469 aM) := ⟨h3_⟩
      have n4_ : Aside0 (Kd.V k56 56 w63 w.heap.size (fun k_ => k_ ≠ ao ∧ k_ ≠ aj ∧ k_ ≠ ah ∧ k_ ≠ ai ∧ k_ ≠ ag ∧ k_ ≠ ac) v472 ay) := ⟨h4_⟩
      have n5_ : Aside0 (Kd.V k68 68 w63 w.heap.size (fun k_ => k_ ≠ ao ∧ k_ ≠ aj ∧ k_ ≠ ah ∧ k_ ≠ ai ∧ k_ ≠ ag ∧ k_ ≠ ac) v475 aR) := ⟨h5_⟩
      have n6_ : Aside0 (w63.heap[ao]? = some (.cells #[.int .i64 am, .slice (some ap) aa.length aq, .slice ar ak.length au, .slice av an.length aw, .int .i64 ab, .int .i64 aN, .int .i64 aO, .int .u8 aK] 48 (0, 0))) := ⟨h6_⟩
      have n7_ : Aside0 (w63.heap[aj]? = some (.cells #[.int .i64 am, .slice (some ap) aa.length aq, .slice ar ak.length au, .slice av an.length aw] 46 (0, 0))) := ⟨h7_⟩
      have n8_ : Aside0 (w63.heap[ah]? = some (.cells #[.int .i64 ((rd_T51 aa ab).f0), .int .i64 ((rd_T51 aa ab).f1), .int .u32 ((rd_T51 aa ab).f2), .string ((rd_T51 aa ab).f3), .int .u64 ((rd_T51 aa ab).f4), .int .u64 ((rd_T51 aa ab).f5)] 51 (0, 0))) := ⟨h8_⟩
      have n9_ : Aside0 (w63.heap[ai]? = some (.cells #[.int .u64 az, .int .u64 aD, .int .i64 aE] 24 (0, 0))) := ⟨h9_⟩
      have n10_ : Aside0 (w63.heap[ag]? = some (.cells #[.int .i64 bb, .slice bk aF.length bj, .slice bl aS.length bm, .slice bn aT.length bo] 46 (0, 0))) := ⟨h10_⟩
      have n11_ : Aside0 (w63.heap[ac]? = some (.cells #[.int .i64 0, .slice none 0 0, .slice none 0 0, .slice none 0 0] 46 (0, 0))) := ⟨h11_⟩
      have n12_ : Aside0 (w.heap.size ≤ ac) := ⟨h12_⟩
      have n13_ : Aside0 (w.heap.size ≤ ac) := ⟨h13_⟩
      have n14_ : Aside0 (ao ≠ ac) := ⟨h14_⟩
      have n15_ : Aside0 (ac ≠ ao) := ⟨h15_⟩
      have n16_ : Aside0 (aj ≠ ac) := ⟨h16_⟩
      have n17_ : Aside0 (ac ≠ aj) := ⟨h17_⟩
      have n18_ : Aside0 (ah ≠ ac) := ⟨h18_⟩
      have n19_ : Aside0 (ac ≠ ah) := ⟨h19_⟩
      have n20_ : Aside0 (ai ≠ ac) := ⟨h20_⟩
      have n21_ : Aside0 (ac ≠ ai) := ⟨h21_⟩
      have n22_ : Aside0 (ag ≠ ac) := ⟨h22_⟩
      have n23_ : Aside0 (ac ≠ ag) := ⟨h23_⟩
      have n24_ : Aside0 (Below w.heap.size w w63) := ⟨h24_⟩
      clear aH
      clear aI
      clear aJ
      clear al
      clear ae
      clear ad
      clear af
      clear ax
      clear HB
      clear h0_ h1_ h2_ h3_ h4_ h5_ h6_ h7_ h8_ h9_ h10_ h11_ h12_ h13_ h14_ h15_ h16_ h17_ h18_ h19_ h20_ h21_ h22_ h23_ h24_
      have aH := n0_
      have aI := n1_
      have aJ := n2_
      have bc := n3_
      have a8 := n4_
      have bd := n5_
      have al := n6_
      have ae := n7_
      have ad := n8_
      have af := n9_
      have ax := n10_
      have aC := n11_
      have bD := n12_
      have br := n13_
      have bB := n14_
      have bO := n15_
      have bt := n16_
      have bI := n17_
      have bs := n18_
      have bP := n19_
      have bw := n20_
      have bQ := n21_
      have bC := n22_
      have bR := n23_
      have HB := n24_
      clear n0_ n1_ n2_ n3_ n4_ n5_ n6_ n7_ n8_ n9_ n10_ n11_ n12_ n13_ n14_ n15_ n16_ n17_ n18_ n19_ n20_ n21_ n22_ n23_ n24_
      have hHeld : w63.cell? ⟨aj, 0, none⟩ = some (.int .i64 am) ∧ w63.cell? ⟨aj, 1, none⟩ = some (.slice (some ap) aa.length aq) ∧ w63.cell? ⟨aj, 2, none⟩ = some (.slice ar ak.length au) ∧ w63.cell? ⟨aj, 3, none⟩ = some (.slice av an.length aw) ∧ w63.cell? ⟨ai, 0, none⟩ = some (.int .u64 az) ∧ w63.cell? ⟨ai, 1, none⟩ = some (.int .u64 aD) ∧ w63.cell? ⟨ai, 2, none⟩ = some (.int .i64 aE) ∧ w63.cell? ⟨ah, 0, none⟩ = some (.int .i64 ((rd_T51 aa ab).f0)) ∧ w63.cell? ⟨ah, 1, none⟩ = some (.int .i64 ((rd_T51 aa ab).f1)) ∧ w63.cell? ⟨ah, 2, none⟩ = some (.int .u32 ((rd_T51 aa ab).f2)) ∧ w63.cell? ⟨ah, 3, none⟩ = some (.string ((rd_T51 aa ab).f3)) ∧ w63.cell? ⟨ah, 4, none⟩ = some (.int .u64 ((rd_T51 aa ab).f4)) ∧ w63.cell? ⟨ah, 5, none⟩ = some (.int .u64 ((rd_T51 aa ab).f5)) := hS_
      obtain ⟨aU, aV, ea⟩ := Kd.V_slice bc.out
      (first | subst ea | (injection ea with f1_ f2_ f3_; have f4_ := f1_.symm; have f5_ := f3_.symm; clear f1_ f2_ f3_; subst f4_; subst f5_))
      obtain ⟨aX, aY, eb⟩ := Kd.V_slice a8.out
      (first | subst eb | (injection eb with f1_ f2_ f3_; have f4_ := f1_.symm; have f5_ := f3_.symm; clear f1_ f2_ f3_; subst f4_; subst f5_))
      obtain ⟨a9, ba, ec⟩ := Kd.V_slice bd.out
      (first | subst ec | (injection ec with f1_ f2_ f3_; have f4_ := f1_.symm; have f5_ := f3_.symm; clear f1_ f2_ f3_; subst f4_; subst f5_))
      refine norm_ (a' := ?_) ?_ ?_
      rotate_left
      ·simp only [putAll, Act.put, sT, s0, s1]
       rfl
      refine one_ (i := 12) (N := none) #[oI, oI, oI, oI, oI, oI, oI, oI, oI, oI, oI, oI, oI, oO] rfl rfl (one_of HT_.out (by kernel_rfl)) (by decide) (fun K hK => ?_)
      have hs64 : w63.cell? ⟨ac, 0, none⟩ = some (.int .i64 0) := (blk_cell aC.out 0).trans rfl
      have hfs64 := blk_frozen aC.out 0
      have hns64_0 := bB.out
      have hns64_1 := bt.out
      have hns64_2 := bs.out
      have hns64_3 := bw.out
      have hns64_4 := bC.out
      have hms64_0 := bO.out
      have hms64_1 := bI.out
      have hms64_2 := bP.out
      have hms64_3 := bQ.out
      have hms64_4 := bR.out
      have hs66 : w63.cell? ⟨ac, 1, none⟩ = some (.slice none 0 0) := (blk_cell aC.out 1).trans rfl
      have hfs66 := blk_frozen aC.out 1
      have hns66_0 := bB.out
      have hns66_1 := bt.out
      have hns66_2 := bs.out
      have hns66_3 := bw.out
      have hns66_4 := bC.out
      have hms66_0 := bO.out
      have hms66_1 := bI.out
      have hms66_2 := bP.out
      have hms66_3 := bQ.out
      have hms66_4 := bR.out
      have hs68 : w63.cell? ⟨ac, 2, none⟩ = some (.slice none 0 0) := (blk_cell aC.out 2).trans rfl
      have hfs68 := blk_frozen aC.out 2
      have hns68_0 := bB.out
      have hns68_1 := bt.out
      have hns68_2 := bs.out
      have hns68_3 := bw.out
      have hns68_4 := bC.out
      have hms68_0 := bO.out
      have hms68_1 := bI.out
      have hms68_2 := bP.out
      have hms68_3 := bQ.out
      have hms68_4 := bR.out
      have hs70 : w63.cell? ⟨ac, 3, none⟩ = some (.slice none 0 0) := (blk_cell aC.out 3).trans rfl
      have hfs70 := blk_frozen aC.out 3
      have hns70_0 := bB.out
      have hns70_1 := bt.out
      have hns70_2 := bs.out
      have hns70_3 := bw.out
      have hns70_4 := bC.out
      have hms70_0 := bO.out
      have hms70_1 := bI.out
      have hms70_2 := bP.out
      have hms70_3 := bQ.out
      have hms70_4 := bR.out
      refine skip_ (w1 := ?_) (by rfl) rfl ?_ ?_
      rotate_left
      ·go_simp
       rfl
      refine hK.out _ _ ⟨(fC bt.out hHeld.1), (fC bt.out hHeld.2.1), (fC bt.out hHeld.2.2.1), (fC bt.out hHeld.2.2.2.1), (fC bw.out hHeld.2.2.2.2.1), (fC bw.out hHeld.2.2.2.2.2.1), (fC bw.out hHeld.2.2.2.2.2.2.1), (fC bs.out hHeld.2.2.2.2.2.2.2.1), (fC bs.out hHeld.2.2.2.2.2.2.2.2.1), (fC bs.out hHeld.2.2.2.2.2.2.2.2.2.1), (fC bs.out hHeld.2.2.2.2.2.2.2.2.2.2.1), (fC bs.out hHeld.2.2.2.2.2.2.2.2.2.2.2.1), (fC bs.out hHeld.2.2.2.2.2.2.2.2.2.2.2.2)⟩ (fun hHeld => ?_)
      clear hK K
      refine pure_ (i := 13) (N := some 14) (v := ?_) (a' := ?_) #[oI, oI, oI, oI, oI, oI, oI, oI, oI, oI, oI, oI, oI, oI] rfl rfl (any_of HT_.out (by kernel_rfl)) (fun _ _ _ h => h) (Or.inl ⟨by rfl, ?_⟩) ?_ ?_
      rotate_left
      ·intro w'
       go_simp
       with_reducible rfl
      rotate_left
      ·simp only [Act.put, sT, s0, s1, i64_w, i32_w]
       rfl
      refine done_ (done_of HT_.out (by kernel_rfl)) ?_
      go_upto_region 13 with (fail)
      go_cut [110] (fun v110 wc => ∃ (kq : Nat) (cr : Bool), v110 = .bool cr ∧ Aside0 (portreevelaw17_MeterOps.j1 kq ab bp bF cr am aa ak an az aD aE bb aF aS aT = some r) ∧ Aside0 (kq ≤ bu) ∧ Aside0 (Kd.V k51 51 wc w.heap.size (fun k_ => k_ ≠ ao ∧ k_ ≠ aj ∧ k_ ≠ ah ∧ k_ ≠ ai ∧ k_ ≠ ag ∧ k_ ≠ ac) (.slice bk aF.length bj) aF) ∧ Aside0 (Kd.V k56 56 wc w.heap.size (fun k_ => k_ ≠ ao ∧ k_ ≠ aj ∧ k_ ≠ ah ∧ k_ ≠ ai ∧ k_ ≠ ag ∧ k_ ≠ ac) (.slice bl aS.length bm) aS) ∧ Aside0 (Kd.V k68 68 wc w.heap.size (fun k_ => k_ ≠ ao ∧ k_ ≠ aj ∧ k_ ≠ ah ∧ k_ ≠ ai ∧ k_ ≠ ag ∧ k_ ≠ ac) (.slice bn aT.length bo) aT) ∧ Aside0 (Kd.V k51 51 wc w.heap.size (fun k_ => k_ ≠ ao ∧ k_ ≠ aj ∧ k_ ≠ ah ∧ k_ ≠ ai ∧ k_ ≠ ag ∧ k_ ≠ ac) (.slice aU aM.length aV) aM) ∧ Aside0 (Kd.V k56 56 wc w.heap.size (fun k_ => k_ ≠ ao ∧ k_ ≠ aj ∧ k_ ≠ ah ∧ k_ ≠ ai ∧ k_ ≠ ag ∧ k_ ≠ ac) (.slice aX ay.length aY) ay) ∧ Aside0 (Kd.V k68 68 wc w.heap.size (fun k_ => k_ ≠ ao ∧ k_ ≠ aj ∧ k_ ≠ ah ∧ k_ ≠ ai ∧ k_ ≠ ag ∧ k_ ≠ ac) (.slice a9 aR.length ba) aR) ∧ Aside0 (wc.heap[ao]? = some (.cells #[.int .i64 am, (.slice (some ap) aa.length aq), (.slice ar ak.length au), (.slice av an.length aw), .int .i64 ab, .int .i64 aN, .int .i64 aO, .int .u8 aK] 48 (0, 0))) ∧ Aside0 (wc.heap[aj]? = some (.cells #[.int .i64 am, (.slice (some ap) aa.length aq), (.slice ar ak.length au), (.slice av an.length aw)] 46 (0, 0))) ∧ Aside0 (wc.heap[ah]? = some (.cells #[.int .i64 ((rd_T51 aa ab).f0), .int .i64 ((rd_T51 aa ab).f1), .int .u32 ((rd_T51 aa ab).f2), .string ((rd_T51 aa ab).f3), .int .u64 ((rd_T51 aa ab).f4), .int .u64 ((rd_T51 aa ab).f5)] 51 (0, 0))) ∧ Aside0 (wc.heap[ai]? = some (.cells #[.int .u64 az, .int .u64 aD, .int .i64 aE] 24 (0, 0))) ∧ Aside0 (wc.heap[ag]? = some (.cells #[.int .i64 bb, (.slice bk aF.length bj), (.slice bl aS.length bm), (.slice bn aT.length bo)] 46 (0, 0))) ∧ Aside0 (wc.heap[ac]? = some (.cells #[.int .i64 aP, (.slice aU aM.length aV), (.slice aX ay.length aY), (.slice a9 aR.length ba)] 46 (0, 0))) ∧ Aside0 (Below w.heap.size w wc))
      case first =>
       have H := HC32.out
       clear HC32
       by_cases c71 : bY = 0
       ·rw [if_pos c71] at H
        have ct : (bY == 0) = true := beq_iff_eq.mpr c71
        have cF : (bY != 0) = false := bne_eq_false_iff_eq.mpr c71
        clear c71
        (first | rw [ct] | (simp only [i64_w, i32_w]; rw [ct]) | skip)
        replace H := Option.bind_eq_some_iff.mp H
        obtain ⟨bT, ed, H⟩ := H
        replace H : (if bT ≥ 0 then (portreevelaw17_MeterOps.j1 bu ab bp bF true am aa ak an az aD aE bb aF aS aT) else (if 0 ≤ (wrap64 ((ay.length : Int) - 1)) then (if (wrap64 ((ay.length : Int) - 1)) < (ay.length : Int) then (if ((rd_T56 ay (wrap64 ((ay.length : Int) - 1))).f2) = az then (portreevelaw17_MeterOps.j1 bu ab bp bF (((rd_T56 ay (wrap64 ((ay.length : Int) - 1))).f4) != (wrap64 (aK))) am aa ak an az aD aE bb aF aS aT) else (portreevelaw17_MeterOps.j1 bu ab bp bF true am aa ak an az aD aE bb aF aS aT)) else (none)) else (none))) = some r := H
        have cG := Aside0.mk ed
        clear ed
        by_cases c73 : bT ≥ 0
        ·rw [if_pos c73] at H
         have ee : decide (0 ≤ bT) = true := decide_eq_true c73
         clear c73
         exact absurd H (by rw [portreevelaw17_MeterOps.j1_true]; simp)
        ·rw [if_neg c73] at H
         have ee : decide (0 ≤ bT) = false := decide_eq_false c73
         clear c73
         obtain ⟨ji77, hji77⟩ : ∃ j_ : Int, (wrap64 ((ay.length : Int) - 1)) = j_ := ⟨_, rfl⟩
         replace H : (if 0 ≤ (ji77) then (if (ji77) < (ay.length : Int) then (if ((rd_T56 ay (ji77)).f2) = az then (portreevelaw17_MeterOps.j1 bu ab bp bF (((rd_T56 ay (ji77)).f4) != (wrap64 (aK))) am aa ak an az aD aE bb aF aS aT) else (portreevelaw17_MeterOps.j1 bu ab bp bF true am aa ak an az aD aE bb aF aS aT)) else (none)) else (none)) = some r := by first | (rw [hji77] at H; exact H) | (simp only [hji77] at H ⊢; exact H)
         (try rw [hji77] at cG)
         have hji77w : (IntKind.i64.wrap ((ay.length : Int) - 1)) = ji77 := (i64_w _).trans hji77
         by_cases c78 : 0 ≤ (ji77)
         ·rw [if_pos c78] at H
          have fn : decide (0 ≤ (ji77)) = true := decide_eq_true c78
          clear c78
          by_cases c79 : (ji77) < (ay.length : Int)
          ·rw [if_pos c79] at H
           have fo : decide ((ji77) < (ay.length : Int)) = true := decide_eq_true c79
           clear c79
           by_cases c80 : ((rd_T56 ay (ji77)).f2) = az
           ·rw [if_pos c80] at H
            have ef : (((rd_T56 ay (ji77)).f2) == az) = true := beq_iff_eq.mpr c80
            have eg : (((rd_T56 ay (ji77)).f2) != az) = false := bne_eq_false_iff_eq.mpr c80
            clear c80
            have H' := Aside0.mk H
            clear H
            try go_wp2
            have n0_ : Aside0 (Kd.V k51 51 ((((w63.setCell ⟨ac, 0, none⟩ (.int .i64 aP)).setCell ⟨ac, 1, none⟩ (.slice aU aM.length aV)).setCell ⟨ac, 2, none⟩ (.slice aX ay.length aY)).setCell ⟨ac, 3, none⟩ (.slice a9 aR.length ba)) w.heap.size (fun k_ => k_ ≠ ao ∧ k_ ≠ aj ∧ k_ ≠ ah ∧ k_ ≠ ai ∧ k_ ≠ ag ∧ k_ ≠ ac) (.slice bk aF.length bj) aF) := ⟨(fV aH.out (fun k_ hk => (⟨hk, hk.2.2.2.2.2⟩ : _ ∧ k_ ≠ ac)) (fun _ hk => ⟨hk.1.1, ⟨hk.1.2.1, ⟨hk.1.2.2.1, ⟨hk.1.2.2.2.1, ⟨hk.1.2.2.2.2.1, hk.1.2.2.2.2.2⟩⟩⟩⟩⟩))⟩
            have n1_ : Aside0 (Kd.V k56 56 ((((w63.setCell ⟨ac, 0, none⟩ (.int .i64 aP)).setCell ⟨ac, 1, none⟩ (.slice aU aM.length aV)).setCell ⟨ac, 2, none⟩ (.slice aX ay.length aY)).setCell ⟨ac, 3, none⟩ (.slice a9 aR.length ba)) w.heap.size (fun k_ => k_ ≠ ao ∧ k_ ≠ aj ∧ k_ ≠ ah ∧ k_ ≠ ai ∧ k_ ≠ ag ∧ k_ ≠ ac) (.slice bl aS.length bm) aS) := ⟨(fV aI.out (fun k_ hk => (⟨hk, hk.2.2.2.2.2⟩ : _ ∧ k_ ≠ ac)) (fun _ hk => ⟨hk.1.1, ⟨hk.1.2.1, ⟨hk.1.2.2.1, ⟨hk.1.2.2.2.1, ⟨hk.1.2.2.2.2.1, hk.1.2.2.2.2.2⟩⟩⟩⟩⟩))⟩
            have n2_ : Aside0 (Kd.V k68 68 ((((w63.setCell ⟨ac, 0, none⟩ (.int .i64 aP)).setCell ⟨ac, 1, none⟩ (.slice aU aM.length aV)).setCell ⟨ac, 2, none⟩ (.slice aX ay.length aY)).setCell ⟨ac, 3, none⟩ (.slice a9 aR.length ba)) w.heap.size (fun k_ => k_ ≠ ao ∧ k_ ≠ aj ∧ k_ ≠ ah ∧ k_ ≠ ai ∧ k_ ≠ ag ∧ k_ ≠ ac) (.slice bn aT.length bo) aT) := ⟨(fV aJ.out (fun k_ hk => (⟨hk, hk.2.2.2.2.2⟩ : _ ∧ k_ ≠ ac)) (fun _ hk => ⟨hk.1.1, ⟨hk.1.2.1, ⟨hk.1.2.2.1, ⟨hk.1.2.2.2.1, ⟨hk.1.2.2.2.2.1, hk.1.2.2.2.2.2⟩⟩⟩⟩⟩))⟩
            have n3_ : Aside0 (Kd.V k51 51 ((((w63.setCell ⟨ac, 0, none⟩ (.int .i64 aP)).setCell ⟨ac, 1, none⟩ (.slice aU aM.length aV)).setCell ⟨ac, 2, none⟩ (.slice aX ay.length aY)).setCell ⟨ac, 3, none⟩ (.slice a9 aR.length ba)) w.heap.size (fun k_ => k_ ≠ ao ∧ k_ ≠ aj ∧ k_ ≠ ah ∧ k_ ≠ ai ∧ k_ ≠ ag ∧ k_ ≠ ac) (.slice aU aM.length aV) aM) := ⟨(fV bc.out (fun k_ hk => (⟨hk, hk.2.2.2.2.2⟩ : _ ∧ k_ ≠ ac)) (fun _ hk => ⟨hk.1.1, ⟨hk.1.2.1, ⟨hk.1.2.2.1, ⟨hk.1.2.2.2.1, ⟨hk.1.2.2.2.2.1, hk.1.2.2.2.2.2⟩⟩⟩⟩⟩))⟩
            have n4_ : Aside0 (Kd.V k56 56 ((((w63.setCell ⟨ac, 0, none⟩ (.int .i64 aP)).setCell ⟨ac, 1, none⟩ (.slice aU aM.length aV)).setCell ⟨ac, 2, none⟩ (.slice aX ay.length aY)).setCell ⟨ac, 3, none⟩ (.slice a9 aR.length ba)) w.heap.size (fun k_ => k_ ≠ ao ∧ k_ ≠ aj ∧ k_ ≠ ah ∧ k_ ≠ ai ∧ k_ ≠ ag ∧ k_ ≠ ac) (.slice aX ay.length aY) ay) := ⟨(fV a8.out (fun k_ hk => (⟨hk, hk.2.2.2.2.2⟩ : _ ∧ k_ ≠ ac)) (fun _ hk => ⟨hk.1.1, ⟨hk.1.2.1, ⟨hk.1.2.2.1, ⟨hk.1.2.2.2.1, ⟨hk.1.2.2.2.2.1, hk.1.2.2.2.2.2⟩⟩⟩⟩⟩))⟩
            have n5_ : Aside0 (Kd.V k68 68 ((((w63.setCell ⟨ac, 0, none⟩ (.int .i64 aP)).setCell ⟨ac, 1, none⟩ (.slice aU aM.length aV)).setCell ⟨ac, 2, none⟩ (.slice aX ay.length aY)).setCell ⟨ac, 3, none⟩ (.slice a9 aR.length ba)) w.heap.size (fun k_ => k_ ≠ ao ∧ k_ ≠ aj ∧ k_ ≠ ah ∧ k_ ≠ ai ∧ k_ ≠ ag ∧ k_ ≠ ac) (.slice a9 aR.length ba) aR) := ⟨(fV bd.out (fun k_ hk => (⟨hk, hk.2.2.2.2.2⟩ : _ ∧ k_ ≠ ac)) (fun _ hk => ⟨hk.1.1, ⟨hk.1.2.1, ⟨hk.1.2.2.1, ⟨hk.1.2.2.2.1, ⟨hk.1.2.2.2.2.1, hk.1.2.2.2.2.2⟩⟩⟩⟩⟩))⟩
            have n6_ : Aside0 (((((w63.setCell ⟨ac, 0, none⟩ (.int .i64 aP)).setCell ⟨ac, 1, none⟩ (.slice aU aM.length aV)).setCell ⟨ac, 2, none⟩ (.slice aX ay.length aY)).setCell ⟨ac, 3, none⟩ (.slice a9 aR.length ba)).heap[ao]? = some (.cells #[.int .i64 am, .slice (some ap) aa.length aq, .slice ar ak.length au, .slice av an.length aw, .int .i64 ab, .int .i64 aN, .int .i64 aO, .int .u8 aK] 48 (0, 0))) := ⟨fB bB.out al.out⟩
            have n7_ : Aside0 (((((w63.setCell ⟨ac, 0, none⟩ (.int .i64 aP)).setCell ⟨ac, 1, none⟩ (.slice aU aM.length aV)).setCell ⟨ac, 2, none⟩ (.slice aX ay.length aY)).setCell ⟨ac, 3, none⟩ (.slice a9 aR.length ba)).heap[aj]? = some (.cells #[.int .i64 am, .slice (some ap) aa.length aq, .slice ar ak.length au, .slice av an.length aw] 46 (0, 0))) := ⟨fB bt.out ae.out⟩
            have n8_ : Aside0 (((((w63.setCell ⟨ac, 0, none⟩ (.int .i64 aP)).setCell ⟨ac, 1, none⟩ (.slice aU aM.length aV)).setCell ⟨ac, 2, none⟩ (.slice aX ay.length aY)).setCell ⟨ac, 3, none⟩ (.slice a9 aR.length ba)).heap[ah]? = some (.cells #[.int .i64 ((rd_T51 aa ab).f0), .int .i64 ((rd_T51 aa ab).f1), .int .u32 ((rd_T51 aa ab).f2), .string ((rd_T51 aa ab).f3), .int .u64 ((rd_T51 aa ab).f4), .int .u64 ((rd_T51 aa ab).f5)] 51 (0, 0))) := ⟨fB bs.out ad.out⟩
            have n9_ : Aside0 (((((w63.setCell ⟨ac, 0, none⟩ (.int .i64 aP)).setCell ⟨ac, 1, none⟩ (.slice aU aM.length aV)).setCell ⟨ac, 2, none⟩ (.slice aX ay.length aY)).setCell ⟨ac, 3, none⟩ (.slice a9 aR.length ba)).heap[ai]? = some (.cells #[.int .u64 az, .int .u64 aD, .int .i64 aE] 24 (0, 0))) := ⟨fB bw.out af.out⟩
            have n10_ : Aside0 (((((w63.setCell ⟨ac, 0, none⟩ (.int .i64 aP)).setCell ⟨ac, 1, none⟩ (.slice aU aM.length aV)).setCell ⟨ac, 2, none⟩ (.slice aX ay.length aY)).setCell ⟨ac, 3, none⟩ (.slice a9 aR.length ba)).heap[ag]? = some (.cells #[.int .i64 bb, .slice bk aF.length bj, .slice bl aS.length bm, .slice bn aT.length bo] 46 (0, 0))) := ⟨fB bC.out ax.out⟩
            have n11_ : Aside0 (((((w63.setCell ⟨ac, 0, none⟩ (.int .i64 aP)).setCell ⟨ac, 1, none⟩ (.slice aU aM.length aV)).setCell ⟨ac, 2, none⟩ (.slice aX ay.length aY)).setCell ⟨ac, 3, none⟩ (.slice a9 aR.length ba)).heap[ac]? = some (.cells #[.int .i64 aP, .slice aU aM.length aV, .slice aX ay.length aY, .slice a9 aR.length ba] 46 (0, 0))) := ⟨by (with_reducible repeat (first | refine qN ?_ _ | refine qD ?_ | refine qA ?_ _)); refine blk_put (cs := #[.int .i64 aP, .slice aU aM.length aV, .slice aX ay.length aY, .slice none 0 0]) ?_ 3 _ rfl; (with_reducible repeat (first | refine qN ?_ _ | refine qD ?_ | refine qA ?_ _)); refine blk_put (cs := #[.int .i64 aP, .slice aU aM.length aV, .slice none 0 0, .slice none 0 0]) ?_ 2 _ rfl; (with_reducible repeat (first | refine qN ?_ _ | refine qD ?_ | refine qA ?_ _)); refine blk_put (cs := #[.int .i64 aP, .slice none 0 0, .slice none 0 0, .slice none 0 0]) ?_ 1 _ rfl; (with_reducible repeat (first | refine qN ?_ _ | refine qD ?_ | refine qA ?_ _)); refine blk_put (cs := #[.int .i64 0, .slice none 0 0, .slice none 0 0, .slice none 0 0]) ?_ 0 _ rfl; (with_reducible repeat (first | refine qN ?_ _ | refine qD ?_ | refine qA ?_ _)); exact aC.out⟩
            have n12_ : Aside0 (Below w.heap.size w ((((w63.setCell ⟨ac, 0, none⟩ (.int .i64 aP)).setCell ⟨ac, 1, none⟩ (.slice aU aM.length aV)).setCell ⟨ac, 2, none⟩ (.slice aX ay.length aY)).setCell ⟨ac, 3, none⟩ (.slice a9 aR.length ba))) := ⟨by repeat (first | (with_reducible first | exact HB.out | apply pA | apply pN | apply pD | refine pS ?_ aA.out | refine pS ?_ aB.out | refine pS ?_ aG.out | refine pS ?_ aL.out | refine pS ?_ aQ.out | refine pS ?_ br.out) | exact HB.out)⟩
            (try clear aH)
            (try clear aI)
            (try clear aJ)
            (try clear bc)
            (try clear a8)
            (try clear bd)
            (try clear al)
            (try clear ae)
            (try clear ad)
            (try clear af)
            (try clear ax)
            (try clear aC)
            (try clear HB)
            generalize ((((w63.setCell ⟨ac, 0, none⟩ (.int .i64 aP)).setCell ⟨ac, 1, none⟩ (.slice aU aM.length aV)).setCell ⟨ac, 2, none⟩ (.slice aX ay.length aY)).setCell ⟨ac, 3, none⟩ (.slice a9 aR.length ba)) = w81 at n0_ n1_ n2_ n3_ n4_ n5_ n6_ n7_ n8_ n9_ n10_ n11_ n12_ ⊢
            have aH := n0_
            have aI := n1_
            have aJ := n2_
            have bc := n3_
            have a8 := n4_
            have bd := n5_
            have al := n6_
            have ae := n7_
            have ad := n8_
            have af := n9_
            have ax := n10_
            have aC := n11_
            have HB := n12_
            clear n0_ n1_ n2_ n3_ n4_ n5_ n6_ n7_ n8_ n9_ n10_ n11_ n12_
            have n0_ := Aside0.mk (Kd.V_drew aH.out)
            have n1_ := Aside0.mk (Kd.V_drew aI.out)
            have n2_ := Aside0.mk (Kd.V_drew aJ.out)
            have n3_ := Aside0.mk (Kd.V_drew bc.out)
            have n4_ := Aside0.mk (Kd.V_drew a8.out)
            have n5_ := Aside0.mk (Kd.V_drew bd.out)
            have n6_ := Aside0.mk (qD al.out)
            have n7_ := Aside0.mk (qD ae.out)
            have n8_ := Aside0.mk (qD ad.out)
            have n9_ := Aside0.mk (qD af.out)
            have n10_ := Aside0.mk (qD ax.out)
            have n11_ := Aside0.mk (qD aC.out)
            have n12_ := Aside0.mk (pD HB.out)
            clear aH
            clear aI
            clear aJ
            clear bc
            clear a8
            clear bd
            clear al
            clear ae
            clear ad
            clear af
            clear ax
            clear aC
            clear HB
            have aH := n0_
            have aI := n1_
            have aJ := n2_
            have bc := n3_
            have a8 := n4_
            have bd := n5_
            have al := n6_
            have ae := n7_
            have ad := n8_
            have af := n9_
            have ax := n10_
            have aC := n11_
            have HB := n12_
            clear n0_ n1_ n2_ n3_ n4_ n5_ n6_ n7_ n8_ n9_ n10_ n11_ n12_
            have p480 : 0 ≤ ((ji77) : Int) := of_decide_eq_true (by first | (with_reducible assumption) | assumption)
            have q480 : (ji77) < (ay.length : Int) := of_decide_eq_true (by first | (with_reducible assumption) | assumption)
            obtain ⟨bz, e480, hx480_0, hx480_1, hx480_2, hx480_3, hx480_4⟩ := at_T56 (Kd.V_reads' a8.out).2.2 (ji77) p480 q480
            cases e480
            replace p480 := eq_true p480
            replace q480 := eq_true q480
            have p481 : 0 ≤ ((ji77) : Int) := of_decide_eq_true (by first | (with_reducible assumption) | assumption)
            have q481 : (ji77) < (ay.length : Int) := of_decide_eq_true (by first | (with_reducible assumption) | assumption)
            obtain ⟨eh, e481, hx481_0, hx481_1, hx481_2, hx481_3, hx481_4⟩ := at_T56 (Kd.V_reads' a8.out).2.2 (ji77) p481 q481
            obtain rfl : bz = eh := (by injection e481)
            replace p481 := eq_true p481
            replace q481 := eq_true q481
            refine start_ (n := 37) (S := fun w' => w'.cell? ⟨ac, 0, none⟩ = some (.int .i64 aP) ∧ w'.cell? ⟨ac, 1, none⟩ = some (.slice aU aM.length aV) ∧ w'.cell? ⟨ac, 2, none⟩ = some (.slice (some bz) ay.length aY) ∧ w'.cell? ⟨ac, 3, none⟩ = some (.slice a9 aR.length ba) ∧ w'.cell? ⟨ah, 0, none⟩ = some (.int .i64 ((rd_T51 aa ab).f0)) ∧ w'.cell? ⟨ah, 1, none⟩ = some (.int .i64 ((rd_T51 aa ab).f1)) ∧ w'.cell? ⟨ah, 2, none⟩ = some (.int .u32 ((rd_T51 aa ab).f2)) ∧ w'.cell? ⟨ah, 3, none⟩ = some (.string ((rd_T51 aa ab).f3)) ∧ w'.cell? ⟨ah, 4, none⟩ = some (.int .u64 ((rd_T51 aa ab).f4)) ∧ w'.cell? ⟨ah, 5, none⟩ = some (.int .u64 ((rd_T51 aa ab).f5)) ∧ w'.cell? ⟨ai, 0, none⟩ = some (.int .u64 az) ∧ w'.cell? ⟨ai, 1, none⟩ = some (.int .u64 aD) ∧ w'.cell? ⟨ai, 2, none⟩ = some (.int .i64 aE) ∧ w'.cell? (bz.add (((ji77)).toNat * 5)) = some (.int .i64 ((rd_T56 ay (ji77)).f0)) ∧ w'.cell? ⟨(bz.add (((ji77)).toNat * 5)).block, (bz.add (((ji77)).toNat * 5)).off + 1, none⟩ = some (.int .i64 ((rd_T56 ay (ji77)).f1)) ∧ w'.cell? ⟨(bz.add (((ji77)).toNat * 5)).block, (bz.add (((ji77)).toNat * 5)).off + 2, none⟩ = some (.int .u64 ((rd_T56 ay (ji77)).f2)) ∧ w'.cell? ⟨(bz.add (((ji77)).toNat * 5)).block, (bz.add (((ji77)).toNat * 5)).off + 3, none⟩ = some (.int .u64 ((rd_T56 ay (ji77)).f3)) ∧ w'.cell? ⟨(bz.add (((ji77)).toNat * 5)).block, (bz.add (((ji77)).toNat * 5)).off + 4, none⟩ = some (.int .i64 ((rd_T56 ay (ji77)).f4)) ∧ w'.cell? (bz.add (((ji77)).toNat * 5)) = some (.int .i64 ((rd_T56 ay (ji77)).f0)) ∧ w'.cell? ⟨(bz.add (((ji77)).toNat * 5)).block, (bz.add (((ji77)).toNat * 5)).off + 1, none⟩ = some (.int .i64 ((rd_T56 ay (ji77)).f1)) ∧ w'.cell? ⟨(bz.add (((ji77)).toNat * 5)).block, (bz.add (((ji77)).toNat * 5)).off + 2, none⟩ = some (.int .u64 ((rd_T56 ay (ji77)).f2)) ∧ w'.cell? ⟨(bz.add (((ji77)).toNat * 5)).block, (bz.add (((ji77)).toNat * 5)).off + 3, none⟩ = some (.int .u64 ((rd_T56 ay (ji77)).f3)) ∧ w'.cell? ⟨(bz.add (((ji77)).toNat * 5)).block, (bz.add (((ji77)).toNat * 5)).off + 4, none⟩ = some (.int .i64 ((rd_T56 ay (ji77)).f4))) (ds := []) #[oO, oO, oO, oO, oO, oO, oO, oO, oO, oO, oO, oO, oO, oO, oO, oO, oO, oO, oO, oO, oO, oO, oO, oO, oO, oO, oO, oO, oO, oO, oO, oO, oO, oO, oO, oO, oO] (by kernel_rfl) rfl rfl ⟨(blk_cell aC.out 0).trans rfl, (blk_cell aC.out 1).trans rfl, (blk_cell aC.out 2).trans rfl, (blk_cell aC.out 3).trans rfl, (blk_cell ad.out 0).trans rfl, (blk_cell ad.out 1).trans rfl, (blk_cell ad.out 2).trans rfl, (blk_cell ad.out 3).trans rfl, (blk_cell ad.out 4).trans rfl, (blk_cell ad.out 5).trans rfl, (blk_cell af.out 0).trans rfl, (blk_cell af.out 1).trans rfl, (blk_cell af.out 2).trans rfl, hx480_0, hx480_1, hx480_2, hx480_3, hx480_4, hx481_0, hx481_1, hx481_2, hx481_3, hx481_4⟩ (fun hHeld => ?_); refine with_tabW portreevelaw17_MeterOps.tab13 portreevelaw17_MeterOps.bits13 (fun HT_ HW_ => ?_)
            generalize w81.drew = w82 at aH aI aJ bc a8 bd al ae ad af ax aC HB hx480_0 hx480_1 hx480_2 hx480_3 hx480_4 hx481_0 hx481_1 hx481_2 hx481_3 hx481_4 hHeld ⊢
            refine pure_ (i := 0) (N := some 74) (v := ?_) (a' := ?_) #[oI, oO, oO, oO, oO, oO, oO, oO, oO, oO, oO, oO, oO, oO, oO, oO, oO, oO, oO, oO, oO, oO, oO, oO, oO, oO, oO, oO, oO, oO, oO, oO, oO, oO, oO, oO, oO] rfl rfl (any_of HT_.out (by kernel_rfl)) (fun _ _ _ h => h) (Or.inl ⟨by rfl, ?_⟩) ?_ ?_
            rotate_left
            ·intro w'
             go_simp
             with_reducible rfl
            rotate_left
            ·simp only [Act.put, sT, s0, s1, i64_w, i32_w]
             rfl
            refine pure_ (i := 1) (N := some 75) (v := ?_) (a' := ?_) #[oI, oI, oO, oO, oO, oO, oO, oO, oO, oO, oO, oO, oO, oO, oO, oO, oO, oO, oO, oO, oO, oO, oO, oO, oO, oO, oO, oO, oO, oO, oO, oO, oO, oO, oO, oO, oO] rfl rfl (any_of HT_.out (by kernel_rfl)) (fun _ _ _ h => h) (Or.inl ⟨by rfl, ?_⟩) ?_ ?_
            rotate_left
            ·intro w'
             go_simp
             with_reducible rfl
            rotate_left
            ·simp only [Act.put, sT, s0, s1, i64_w, i32_w]
             rfl
            refine pure_ (i := 2) (N := some 76) (v := ?_) (a' := ?_) #[oI, oI, oI, oO, oO, oO, oO, oO, oO, oO, oO, oO, oO, oO, oO, oO, oO, oO, oO, oO, oO, oO, oO, oO, oO, oO, oO, oO, oO, oO, oO, oO, oO, oO, oO, oO, oO] rfl rfl (any_of HT_.out (by kernel_rfl)) (fun _ _ _ h => h) (Or.inl ⟨by rfl, ?_⟩) ?_ ?_
            rotate_left
            ·intro w'
             go_simp
             with_reducible rfl
            rotate_left
            ·simp only [Act.put, sT, s0, s1, i64_w, i32_w]
             rfl
            refine pure_ (i := 4) (N := some 78) (v := ?_) (a' := ?_) #[oI, oI, oI, oO, oI, oO, oO, oO, oO, oO, oO, oO, oO, oO, oO, oO, oO, oO, oO, oO, oO, oO, oO, oO, oO, oO, oO, oO, oO, oO, oO, oO, oO, oO, oO, oO, oO] rfl rfl (any_of HT_.out (by kernel_rfl)) (fun _ _ _ h => h) (Or.inl ⟨by rfl, ?_⟩) ?_ ?_
            rotate_left
            ·intro w'
             go_simp
             with_reducible rfl
            rotate_left
            ·simp only [Act.put, sT, s0, s1, i64_w, i32_w]
             rfl
            refine take_ (i := 3) (N := some 77) (v := ?_) (a' := ?_) #[oI, oI, oI, oI, oI, oO, oO, oO, oO, oO, oO, oO, oO, oO, oO, oO, oO, oO, oO, oO, oO, oO, oO, oO, oO, oO, oO, oO, oO, oO, oO, oO, oO, oO, oO, oO, oO] rfl rfl (take_ofW HT_.out HW_.out (by kernel_rfl)) (fun _ _ _ h => h) (Or.inl ⟨by rfl, ?_⟩) hHeld ?_ ?_
            rotate_left
            ·rintro w' ⟨s0, s1, s2, s3, s4, s5, s6, s7, s8, s9, s10, s11, s12, s13, s14, s15, s16, s17, s18, s19, s20, s21, s22⟩
             go_simp
             with_reducible rfl
            rotate_left
            ·simp only [Act.put, sT, s0, s1, i64_w, i32_w]
             rfl
            refine take_ (i := 5) (N := some 79) (v := ?_) (a' := ?_) #[oI, oI, oI, oI, oI, oI, oO, oO, oO, oO, oO, oO, oO, oO, oO, oO, oO, oO, oO, oO, oO, oO, oO, oO, oO, oO, oO, oO, oO, oO, oO, oO, oO, oO, oO, oO, oO] rfl rfl (take_ofW HT_.out HW_.out (by kernel_rfl)) (fun _ _ _ h => h) (Or.inl ⟨by rfl, ?_⟩) hHeld ?_ ?_
            rotate_left
            ·rintro w' ⟨s0, s1, s2, s3, s4, s5, s6, s7, s8, s9, s10, s11, s12, s13, s14, s15, s16, s17, s18, s19, s20, s21, s22⟩
             go_simp
             with_reducible rfl
            rotate_left
            ·simp only [Act.put, sT, s0, s1, i64_w, i32_w]
             rfl
            refine one_ (i := 6) (N := some 80) #[oI, oI, oI, oI, oI, oI, oI, oO, oO, oO, oO, oO, oO, oO, oO, oO, oO, oO, oO, oO, oO, oO, oO, oO, oO, oO, oO, oO, oO, oO, oO, oO, oO, oO, oO, oO, oO] rfl rfl (one_of HT_.out (by kernel_rfl)) (by decide) (fun K hK => ?_)
            refine goes_ Try.func24 (by kernel_rfl) rfl #[.agg #[.int .i64 aP, .slice aU aM.length aV, .slice (some bz) ay.length aY, .slice a9 aR.length ba], .int .i64 ((rd_T51 aa ab).f0)] (by rfl) rfl rfl (by (try simp only [List.map_toArray, List.map_cons, List.map_nil]); first | done | rfl | (simp only [List.length_drop, List.length_take]; rfl)) ?_
            with_reducible refine (portreeveref04_Of.calls bu aP _ _ aM _ _ ay _ _ aR ((rd_T51 aa ab).f0) bT _ ?side1 ?side2 ?side3 ?side4 ?side5 ?side6 cG.out).mono ?_
            (case side1 => repeat (first | exact (Kd.V_reads' bc.out).2.2 | (with_reducible refine Kd.C_alloc ?_ _) | (with_reducible refine Kd.C_drewN ?_ _) | (with_reducible refine Kd.C_drew ?_)))
            (case side2 => exact (Kd.V_reads' bc.out).2.1)
            (case side3 => repeat (first | exact (Kd.V_reads' a8.out).2.2 | (with_reducible refine Kd.C_alloc ?_ _) | (with_reducible refine Kd.C_drewN ?_ _) | (with_reducible refine Kd.C_drew ?_)))
            (case side4 => exact (Kd.V_reads' a8.out).2.1)
            (case side5 => repeat (first | exact (Kd.V_reads' bd.out).2.2 | (with_reducible refine Kd.C_alloc ?_ _) | (with_reducible refine Kd.C_drewN ?_ _) | (with_reducible refine Kd.C_drew ?_)))
            (case side6 => exact (Kd.V_reads' bd.out).2.1)
            rintro e w83 ⟨rfl, hb⟩
            have HS13_ := (hb.cell (World.block_lt_of_cell? _ _ (hHeld.2.2.2.2.2.2.2.2.2.2.2.2.2.1))).trans (hHeld.2.2.2.2.2.2.2.2.2.2.2.2.2.1)
            have HS14_ := (hb.cell (World.block_lt_of_cell? _ _ (hHeld.2.2.2.2.2.2.2.2.2.2.2.2.2.2.1))).trans (hHeld.2.2.2.2.2.2.2.2.2.2.2.2.2.2.1)
            have HS15_ := (hb.cell (World.block_lt_of_cell? _ _ (hHeld.2.2.2.2.2.2.2.2.2.2.2.2.2.2.2.1))).trans (hHeld.2.2.2.2.2.2.2.2.2.2.2.2.2.2.2.1)
            have HS16_ := (hb.cell (World.block_lt_of_cell? _ _ (hHeld.2.2.2.2.2.2.2.2.2.2.2.2.2.2.2.2.1))).trans (hHeld.2.2.2.2.2.2.2.2.2.2.2.2.2.2.2.2.1)
            have HS17_ := (hb.cell (World.block_lt_of_cell? _ _ (hHeld.2.2.2.2.2.2.2.2.2.2.2.2.2.2.2.2.2.1))).trans (hHeld.2.2.2.2.2.2.2.2.2.2.2.2.2.2.2.2.2.1)
            have HS18_ := (hb.cell (World.block_lt_of_cell? _ _ (hHeld.2.2.2.2.2.2.2.2.2.2.2.2.2.2.2.2.2.2.1))).trans (hHeld.2.2.2.2.2.2.2.2.2.2.2.2.2.2.2.2.2.2.1)
            have HS19_ := (hb.cell (World.block_lt_of_cell? _ _ (hHeld.2.2.2.2.2.2.2.2.2.2.2.2.2.2.2.2.2.2.2.1))).trans (hHeld.2.2.2.2.2.2.2.2.2.2.2.2.2.2.2.2.2.2.2.1)
            have HS20_ := (hb.cell (World.block_lt_of_cell? _ _ (hHeld.2.2.2.2.2.2.2.2.2.2.2.2.2.2.2.2.2.2.2.2.1))).trans (hHeld.2.2.2.2.2.2.2.2.2.2.2.2.2.2.2.2.2.2.2.2.1)
            have HS21_ := (hb.cell (World.block_lt_of_cell? _ _ (hHeld.2.2.2.2.2.2.2.2.2.2.2.2.2.2.2.2.2.2.2.2.2.1))).trans (hHeld.2.2.2.2.2.2.2.2.2.2.2.2.2.2.2.2.2.2.2.2.2.1)
            have HS22_ := (hb.cell (World.block_lt_of_cell? _ _ (hHeld.2.2.2.2.2.2.2.2.2.2.2.2.2.2.2.2.2.2.2.2.2.2))).trans (hHeld.2.2.2.2.2.2.2.2.2.2.2.2.2.2.2.2.2.2.2.2.2.2)
            refine ⟨_, rfl, ?_⟩
            have n0_ := Aside0.mk (Kd.V_below (zV aH.out) hb)
            have n1_ := Aside0.mk (Kd.V_below (zV aI.out) hb)
            have n2_ := Aside0.mk (Kd.V_below (zV aJ.out) hb)
            have n3_ := Aside0.mk (Kd.V_below (zV bc.out) hb)
            have n4_ := Aside0.mk (Kd.V_below (zV a8.out) hb)
            have n5_ := Aside0.mk (Kd.V_below (zV bd.out) hb)
            have n6_ := Aside0.mk (blk_below (g := ao) (o := .cells #[.int .i64 am, .slice (some ap) aa.length aq, .slice ar ak.length au, .slice av an.length aw, .int .i64 ab, .int .i64 aN, .int .i64 aO, .int .u8 aK] 48 (0, 0)) (zB al.out) hb)
            have n7_ := Aside0.mk (blk_below (g := aj) (o := .cells #[.int .i64 am, .slice (some ap) aa.length aq, .slice ar ak.length au, .slice av an.length aw] 46 (0, 0)) (zB ae.out) hb)
            have n8_ := Aside0.mk (blk_below (g := ah) (o := .cells #[.int .i64 ((rd_T51 aa ab).f0), .int .i64 ((rd_T51 aa ab).f1), .int .u32 ((rd_T51 aa ab).f2), .string ((rd_T51 aa ab).f3), .int .u64 ((rd_T51 aa ab).f4), .int .u64 ((rd_T51 aa ab).f5)] 51 (0, 0)) (zB ad.out) hb)
            have n9_ := Aside0.mk (blk_below (g := ai) (o := .cells #[.int .u64 az, .int .u64 aD, .int .i64 aE] 24 (0, 0)) (zB af.out) hb)
            have n10_ := Aside0.mk (blk_below (g := ag) (o := .cells #[.int .i64 bb, .slice bk aF.length bj, .slice bl aS.length bm, .slice bn aT.length bo] 46 (0, 0)) (zB ax.out) hb)
            have n11_ := Aside0.mk (blk_below (g := ac) (o := .cells #[.int .i64 aP, .slice aU aM.length aV, .slice (some bz) ay.length aY, .slice a9 aR.length ba] 46 (0, 0)) (zB aC.out) hb)
            have n12_ := Aside0.mk (below_step (by repeat (first | (with_reducible first | exact HB.out | apply pA | apply pN | apply pD | refine pS ?_ aA.out | refine pS ?_ aB.out | refine pS ?_ aG.out | refine pS ?_ aL.out | refine pS ?_ aQ.out | refine pS ?_ br.out) | exact HB.out)) hb)
            clear aH
            clear aI
            clear aJ
            clear bc
            clear a8
            clear bd
            clear al
            clear ae
            clear ad
            clear af
            clear ax
            clear aC
            clear HB
            have aH := n0_
            have aI := n1_
            have aJ := n2_
            have bc := n3_
            have a8 := n4_
            have bd := n5_
            have al := n6_
            have ae := n7_
            have ad := n8_
            have af := n9_
            have ax := n10_
            have aC := n11_
            have HB := n12_
            clear n0_ n1_ n2_ n3_ n4_ n5_ n6_ n7_ n8_ n9_ n10_ n11_ n12_
            (try clear hb)
            (try clear hb2)
            (try clear hk)
            (try clear hi)
            refine hK.out _ _ ⟨(blk_cell aC.out 0).trans rfl, (blk_cell aC.out 1).trans rfl, (blk_cell aC.out 2).trans rfl, (blk_cell aC.out 3).trans rfl, (blk_cell ad.out 0).trans rfl, (blk_cell ad.out 1).trans rfl, (blk_cell ad.out 2).trans rfl, (blk_cell ad.out 3).trans rfl, (blk_cell ad.out 4).trans rfl, (blk_cell ad.out 5).trans rfl, (blk_cell af.out 0).trans rfl, (blk_cell af.out 1).trans rfl, (blk_cell af.out 2).trans rfl, HS13_, HS14_, HS15_, HS16_, HS17_, HS18_, HS19_, HS20_, HS21_, HS22_⟩ (fun hHeld => ?_)
            clear hK K
            refine norm_ (a' := ?_) ?_ ?_
            rotate_left
            ·show Act.put _ (some 80) _ = _
             simp only [Act.put, sT, s0, s1, i64_w, i32_w]
             rfl
            refine pure_ (i := 7) (N := some 81) (v := ?_) (a' := ?_) #[oI, oI, oI, oI, oI, oI, oI, oI, oO, oO, oO, oO, oO, oO, oO, oO, oO, oO, oO, oO, oO, oO, oO, oO, oO, oO, oO, oO, oO, oO, oO, oO, oO, oO, oO, oO, oO] rfl rfl (any_of HT_.out (by kernel_rfl)) (fun _ _ _ h => h) (Or.inl ⟨by rfl, ?_⟩) ?_ ?_
            rotate_left
            ·intro w'
             go_simp
             with_reducible rfl
            rotate_left
            ·simp only [Act.put, sT, s0, s1, i64_w, i32_w]
             rfl
            refine pure_ (i := 8) (N := some 82) (v := ?_) (a' := ?_) #[oI, oI, oI, oI, oI, oI, oI, oI, oI, oO, oO, oO, oO, oO, oO, oO, oO, oO, oO, oO, oO, oO, oO, oO, oO, oO, oO, oO, oO, oO, oO, oO, oO, oO, oO, oO, oO] rfl rfl (any_of HT_.out (by kernel_rfl)) (fun _ _ _ h => h) (Or.inl ⟨by rfl, ?_⟩) ?_ ?_
            rotate_left
            ·intro w'
             go_simp
             with_reducible rfl
            rotate_left
            ·simp only [Act.put, sT, s0, s1, i64_w, i32_w]
             rfl
            refine pure_ (i := 9) (N := some 83) (v := ?_) (a' := ?_) #[oI, oI, oI, oI, oI, oI, oI, oI, oI, oI, oO, oO, oO, oO, oO, oO, oO, oO, oO, oO, oO, oO, oO, oO, oO, oO, oO, oO, oO, oO, oO, oO, oO, oO, oO, oO, oO] rfl rfl (any_of HT_.out (by kernel_rfl)) (fun _ _ _ h => h) (Or.inl ⟨by rfl, ?_⟩) ?_ ?_
            rotate_left
            ·intro w'
             go_simp
             with_reducible rfl
            rotate_left
            ·simp only [Act.put, sT, s0, s1, i64_w, i32_w]
             rfl
            refine pure_ (i := 10) (N := some 84) (v := ?_) (a' := ?_) #[oI, oI, oI, oI, oI, oI, oI, oI, oI, oI, oI, oO, oO, oO, oO, oO, oO, oO, oO, oO, oO, oO, oO, oO, oO, oO, oO, oO, oO, oO, oO, oO, oO, oO, oO, oO, oO] rfl rfl (any_of HT_.out (by kernel_rfl)) (fun _ _ _ h => h) (Or.inl ⟨by rfl, ?_⟩) ?_ ?_
            rotate_left
            ·intro w'
             go_simp
             with_reducible rfl
            rotate_left
            ·simp only [Act.put, sT, s0, s1, i64_w, i32_w]
             rfl
            refine pure_ (i := 12) (N := some 86) (v := ?_) (a' := ?_) #[oI, oI, oI, oI, oI, oI, oI, oI, oI, oI, oI, oO, oI, oO, oO, oO, oO, oO, oO, oO, oO, oO, oO, oO, oO, oO, oO, oO, oO, oO, oO, oO, oO, oO, oO, oO, oO] rfl rfl (any_of HT_.out (by kernel_rfl)) (fun _ _ _ h => h) (Or.inl ⟨by rfl, ?_⟩) ?_ ?_
            rotate_left
            ·intro w'
             go_simp
             with_reducible rfl
            rotate_left
            ·simp only [Act.put, sT, s0, s1, i64_w, i32_w]
             rfl
            refine pure_ (i := 19) (N := some 93) (v := ?_) (a' := ?_) #[oI, oI, oI, oI, oI, oI, oI, oI, oI, oI, oI, oO, oI, oO, oO, oO, oO, oO, oO, oI, oO, oO, oO, oO, oO, oO, oO, oO, oO, oO, oO, oO, oO, oO, oO, oO, oO] rfl rfl (any_of HT_.out (by kernel_rfl)) (fun _ _ _ h => h) (Or.inl ⟨by rfl, ?_⟩) ?_ ?_
            rotate_left
            ·intro w'
             go_simp
             with_reducible rfl
            rotate_left
            ·simp only [Act.put, sT, s0, s1, i64_w, i32_w]
             rfl
            refine take_ (i := 11) (N := some 85) (v := ?_) (a' := ?_) #[oI, oI, oI, oI, oI, oI, oI, oI, oI, oI, oI, oI, oI, oO, oO, oO, oO, oO, oO, oI, oO, oO, oO, oO, oO, oO, oO, oO, oO, oO, oO, oO, oO, oO, oO, oO, oO] rfl rfl (take_ofW HT_.out HW_.out (by kernel_rfl)) (fun _ _ _ h => h) (Or.inl ⟨by rfl, ?_⟩) hHeld ?_ ?_
            rotate_left
            ·rintro w' ⟨s0, s1, s2, s3, s4, s5, s6, s7, s8, s9, s10, s11, s12, s13, s14, s15, s16, s17, s18, s19, s20, s21, s22⟩
             go_simp
             with_reducible rfl
            rotate_left
            ·simp only [Act.put, sT, s0, s1, i64_w, i32_w]
             rfl
            refine take_ (i := 13) (N := some 87) (v := ?_) (a' := ?_) #[oI, oI, oI, oI, oI, oI, oI, oI, oI, oI, oI, oI, oI, oI, oO, oO, oO, oO, oO, oI, oO, oO, oO, oO, oO, oO, oO, oO, oO, oO, oO, oO, oO, oO, oO, oO, oO] rfl rfl (take_ofW HT_.out HW_.out (by kernel_rfl)) (fun _ _ _ h => h) (Or.inl ⟨by rfl, ?_⟩) hHeld ?_ ?_
            rotate_left
            ·rintro w' ⟨s0, s1, s2, s3, s4, s5, s6, s7, s8, s9, s10, s11, s12, s13, s14, s15, s16, s17, s18, s19, s20, s21, s22⟩
             go_simp
             with_reducible rfl
            rotate_left
            ·simp only [Act.put, sT, s0, s1, i64_w, i32_w]
             rfl
            refine pure_ (i := 14) (N := some 88) (v := ?_) (a' := ?_) #[oI, oI, oI, oI, oI, oI, oI, oI, oI, oI, oI, oI, oI, oI, oI, oO, oO, oO, oO, oI, oO, oO, oO, oO, oO, oO, oO, oO, oO, oO, oO, oO, oO, oO, oO, oO, oO] rfl rfl (any_of HT_.out (by kernel_rfl)) (fun _ _ _ h => h) (Or.inl ⟨by rfl, ?_⟩) ?_ ?_
            rotate_left
            ·intro w'
             go_simp
             with_reducible rfl
            rotate_left
            ·simp only [Act.put, sT, s0, s1, i64_w, i32_w]
             rfl
            refine pure_ (i := 15) (N := some 89) (v := ?_) (a' := ?_) #[oI, oI, oI, oI, oI, oI, oI, oI, oI, oI, oI, oI, oI, oI, oI, oI, oO, oO, oO, oI, oO, oO, oO, oO, oO, oO, oO, oO, oO, oO, oO, oO, oO, oO, oO, oO, oO] rfl rfl (any_of HT_.out (by kernel_rfl)) (fun _ _ _ h => h) (Or.inl ⟨by rfl, ?_⟩) ?_ ?_
            rotate_left
            ·intro w'
             go_simp
             with_reducible rfl
            rotate_left
            ·simp only [Act.put, sT, s0, s1, i64_w, i32_w]
             rfl
            refine pure_ (i := 16) (N := some 90) (v := ?_) (a' := ?_) #[oI, oI, oI, oI, oI, oI, oI, oI, oI, oI, oI, oI, oI, oI, oI, oI, oI, oO, oO, oI, oO, oO, oO, oO, oO, oO, oO, oO, oO, oO, oO, oO, oO, oO, oO, oO, oO] rfl rfl (any_of HT_.out (by kernel_rfl)) (fun _ _ _ h => h) (Or.inl ⟨by rfl, ?_⟩) ?_ ?_
            rotate_left
            ·intro w'
             go_simp
             with_reducible rfl
            rotate_left
            ·simp only [Act.put, sT, s0, s1, i64_w, i32_w]
             rfl
            refine pure_ (i := 17) (N := some 91) (v := ?_) (a' := ?_) #[oI, oI, oI, oI, oI, oI, oI, oI, oI, oI, oI, oI, oI, oI, oI, oI, oI, oI, oO, oI, oO, oO, oO, oO, oO, oO, oO, oO, oO, oO, oO, oO, oO, oO, oO, oO, oO] rfl rfl (any_of HT_.out (by kernel_rfl)) (fun _ _ _ h => h) (Or.inl ⟨by rfl, ?_⟩) ?_ ?_
            rotate_left
            ·intro w'
             go_simp
             with_reducible rfl
            rotate_left
            ·simp only [Act.put, sT, s0, s1, i64_w, i32_w]
             rfl
            refine take_ (i := 18) (N := some 92) (v := ?_) (a' := ?_) #[oI, oI, oI, oI, oI, oI, oI, oI, oI, oI, oI, oI, oI, oI, oI, oI, oI, oI, oI, oI, oO, oO, oO, oO, oO, oO, oO, oO, oO, oO, oO, oO, oO, oO, oO, oO, oO] rfl rfl (take_ofW HT_.out HW_.out (by kernel_rfl)) (fun _ _ _ h => h) (Or.inl ⟨by rfl, ?_⟩) hHeld ?_ ?_
            rotate_left
            ·rintro w' ⟨s0, s1, s2, s3, s4, s5, s6, s7, s8, s9, s10, s11, s12, s13, s14, s15, s16, s17, s18, s19, s20, s21, s22⟩
             go_simp
             with_reducible rfl
            rotate_left
            ·simp only [Act.put, sT, s0, s1, i64_w, i32_w]
             rfl
            refine take_ (i := 20) (N := some 94) (v := ?_) (a' := ?_) #[oI, oI, oI, oI, oI, oI, oI, oI, oI, oI, oI, oI, oI, oI, oI, oI, oI, oI, oI, oI, oI, oO, oO, oO, oO, oO, oO, oO, oO, oO, oO, oO, oO, oO, oO, oO, oO] rfl rfl (take_ofW HT_.out HW_.out (by kernel_rfl)) (fun _ _ _ h => h) (Or.inl ⟨by rfl, ?_⟩) hHeld ?_ ?_
            rotate_left
            ·rintro w' ⟨s0, s1, s2, s3, s4, s5, s6, s7, s8, s9, s10, s11, s12, s13, s14, s15, s16, s17, s18, s19, s20, s21, s22⟩
             go_simp
             with_reducible rfl
            rotate_left
            ·simp only [Act.put, sT, s0, s1, i64_w, i32_w]
             rfl
            refine pure_ (i := 21) (N := some 95) (v := ?_) (a' := ?_) #[oI, oI, oI, oI, oI, oI, oI, oI, oI, oI, oI, oI, oI, oI, oI, oI, oI, oI, oI, oI, oI, oI, oO, oO, oO, oO, oO, oO, oO, oO, oO, oO, oO, oO, oO, oO, oO] rfl rfl (any_of HT_.out (by kernel_rfl)) (fun _ _ _ h => h) (Or.inl ⟨by rfl, ?_⟩) ?_ ?_
            rotate_left
            ·intro w'
             go_simp
             with_reducible rfl
            rotate_left
            ·simp only [Act.put, sT, s0, s1, i64_w, i32_w]
             rfl
            refine pure_ (i := 22) (N := some 96) (v := ?_) (a' := ?_) #[oI, oI, oI, oI, oI, oI, oI, oI, oI, oI, oI, oI, oI, oI, oI, oI, oI, oI, oI, oI, oI, oI, oI, oO, oO, oO, oO, oO, oO, oO, oO, oO, oO, oO, oO, oO, oO] rfl rfl (any_of HT_.out (by kernel_rfl)) (fun _ _ _ h => h) (Or.inl ⟨by rfl, ?_⟩) ?_ ?_
            rotate_left
            ·intro w'
             go_simp
             with_reducible rfl
            rotate_left
            ·simp only [Act.put, sT, s0, s1, i64_w, i32_w]
             rfl
            refine pure_ (i := 23) (N := some 97) (v := ?_) (a' := ?_) #[oI, oI, oI, oI, oI, oI, oI, oI, oI, oI, oI, oI, oI, oI, oI, oI, oI, oI, oI, oI, oI, oI, oI, oI, oO, oO, oO, oO, oO, oO, oO, oO, oO, oO, oO, oO, oO] rfl rfl (any_of HT_.out (by kernel_rfl)) (fun _ _ _ h => h) (Or.inl ⟨by rfl, ?_⟩) ?_ ?_
            rotate_left
            ·intro w'
             go_simp
             with_reducible rfl
            rotate_left
            ·simp only [Act.put, sT, s0, s1, i64_w, i32_w]
             rfl
            refine pure_ (i := 24) (N := some 98) (v := ?_) (a' := ?_) #[oI, oI, oI, oI, oI, oI, oI, oI, oI, oI, oI, oI, oI, oI, oI, oI, oI, oI, oI, oI, oI, oI, oI, oI, oI, oO, oO, oO, oO, oO, oO, oO, oO, oO, oO, oO, oO] rfl rfl (any_of HT_.out (by kernel_rfl)) (fun _ _ _ h => h) (Or.inl ⟨by rfl, ?_⟩) ?_ ?_
            rotate_left
            ·intro w'
             go_simp
             with_reducible rfl
            rotate_left
            ·simp only [Act.put, sT, s0, s1, i64_w, i32_w]
             rfl
            refine pure_ (i := 26) (N := some 100) (v := ?_) (a' := ?_) #[oI, oI, oI, oI, oI, oI, oI, oI, oI, oI, oI, oI, oI, oI, oI, oI, oI, oI, oI, oI, oI, oI, oI, oI, oI, oO, oI, oO, oO, oO, oO, oO, oO, oO, oO, oO, oO] rfl rfl (any_of HT_.out (by kernel_rfl)) (fun _ _ _ h => h) (Or.inl ⟨by rfl, ?_⟩) ?_ ?_
            rotate_left
            ·intro w'
             go_simp
             with_reducible rfl
            rotate_left
            ·simp only [Act.put, sT, s0, s1, i64_w, i32_w]
             rfl
            refine pure_ (i := 33) (N := some 107) (v := ?_) (a' := ?_) #[oI, oI, oI, oI, oI, oI, oI, oI, oI, oI, oI, oI, oI, oI, oI, oI, oI, oI, oI, oI, oI, oI, oI, oI, oI, oO, oI, oO, oO, oO, oO, oO, oO, oI, oO, oO, oO] rfl rfl (any_of HT_.out (by kernel_rfl)) (fun _ _ _ h => h) (Or.inl ⟨by rfl, ?_⟩) ?_ ?_
            rotate_left
            ·intro w'
             go_simp
             with_reducible rfl
            rotate_left
            ·simp only [Act.put, sT, s0, s1, i64_w, i32_w]
             rfl
            refine pure_ (i := 34) (N := some 108) (v := ?_) (a' := ?_) #[oI, oI, oI, oI, oI, oI, oI, oI, oI, oI, oI, oI, oI, oI, oI, oI, oI, oI, oI, oI, oI, oI, oI, oI, oI, oO, oI, oO, oO, oO, oO, oO, oO, oI, oI, oO, oO] rfl rfl (any_of HT_.out (by kernel_rfl)) (fun _ _ _ h => h) (Or.inl ⟨by rfl, ?_⟩) ?_ ?_
            rotate_left
            ·intro w'
             go_simp
             with_reducible rfl
            rotate_left
            ·simp only [Act.put, sT, s0, s1, i64_w, i32_w]
             rfl
            refine take_ (i := 25) (N := some 99) (v := ?_) (a' := ?_) #[oI, oI, oI, oI, oI, oI, oI, oI, oI, oI, oI, oI, oI, oI, oI, oI, oI, oI, oI, oI, oI, oI, oI, oI, oI, oI, oI, oO, oO, oO, oO, oO, oO, oI, oI, oO, oO] rfl rfl (take_ofW HT_.out HW_.out (by kernel_rfl)) (fun _ _ _ h => h) (Or.inl ⟨by rfl, ?_⟩) hHeld ?_ ?_
            rotate_left
            ·rintro w' ⟨s0, s1, s2, s3, s4, s5, s6, s7, s8, s9, s10, s11, s12, s13, s14, s15, s16, s17, s18, s19, s20, s21, s22⟩
             go_simp
             with_reducible rfl
            rotate_left
            ·simp only [Act.put, sT, s0, s1, i64_w, i32_w]
             rfl
            refine take_ (i := 27) (N := some 101) (v := ?_) (a' := ?_) #[oI, oI, oI, oI, oI, oI, oI, oI, oI, oI, oI, oI, oI, oI, oI, oI, oI, oI, oI, oI, oI, oI, oI, oI, oI, oI, oI, oI, oO, oO, oO, oO, oO, oI, oI, oO, oO] rfl rfl (take_ofW HT_.out HW_.out (by kernel_rfl)) (fun _ _ _ h => h) (Or.inl ⟨by rfl, ?_⟩) hHeld ?_ ?_
            rotate_left
            ·rintro w' ⟨s0, s1, s2, s3, s4, s5, s6, s7, s8, s9, s10, s11, s12, s13, s14, s15, s16, s17, s18, s19, s20, s21, s22⟩
             go_simp
             with_reducible rfl
            rotate_left
            ·simp only [Act.put, sT, s0, s1, i64_w, i32_w]
             rfl
            refine pure_ (i := 28) (N := some 102) (v := ?_) (a' := ?_) #[oI, oI, oI, oI, oI, oI, oI, oI, oI, oI, oI, oI, oI, oI, oI, oI, oI, oI, oI, oI, oI, oI, oI, oI, oI, oI, oI, oI, oI, oO, oO, oO, oO, oI, oI, oO, oO] rfl rfl (any_of HT_.out (by kernel_rfl)) (fun _ _ _ h => h) (Or.inl ⟨by rfl, ?_⟩) ?_ ?_
            rotate_left
            ·intro w'
             go_simp
             with_reducible rfl
            rotate_left
            ·simp only [Act.put, sT, s0, s1, i64_w, i32_w]
             rfl
            refine pure_ (i := 29) (N := some 103) (v := ?_) (a' := ?_) #[oI, oI, oI, oI, oI, oI, oI, oI, oI, oI, oI, oI, oI, oI, oI, oI, oI, oI, oI, oI, oI, oI, oI, oI, oI, oI, oI, oI, oI, oI, oO, oO, oO, oI, oI, oO, oO] rfl rfl (any_of HT_.out (by kernel_rfl)) (fun _ _ _ h => h) (Or.inl ⟨by rfl, ?_⟩) ?_ ?_
            rotate_left
            ·intro w'
             go_simp
             with_reducible rfl
            rotate_left
            ·simp only [Act.put, sT, s0, s1, i64_w, i32_w]
             rfl
            refine pure_ (i := 30) (N := some 104) (v := ?_) (a' := ?_) #[oI, oI, oI, oI, oI, oI, oI, oI, oI, oI, oI, oI, oI, oI, oI, oI, oI, oI, oI, oI, oI, oI, oI, oI, oI, oI, oI, oI, oI, oI, oI, oO, oO, oI, oI, oO, oO] rfl rfl (any_of HT_.out (by kernel_rfl)) (fun _ _ _ h => h) (Or.inl ⟨by rfl, ?_⟩) ?_ ?_
            rotate_left
            ·intro w'
             go_simp
             with_reducible rfl
            rotate_left
            ·simp only [Act.put, sT, s0, s1, i64_w, i32_w]
             rfl
            refine pure_ (i := 31) (N := some 105) (v := ?_) (a' := ?_) #[oI, oI, oI, oI, oI, oI, oI, oI, oI, oI, oI, oI, oI, oI, oI, oI, oI, oI, oI, oI, oI, oI, oI, oI, oI, oI, oI, oI, oI, oI, oI, oI, oO, oI, oI, oO, oO] rfl rfl (any_of HT_.out (by kernel_rfl)) (fun _ _ _ h => h) (Or.inl ⟨by rfl, ?_⟩) ?_ ?_
            rotate_left
            ·intro w'
             go_simp
             with_reducible rfl
            rotate_left
            ·simp only [Act.put, sT, s0, s1, i64_w, i32_w]
             rfl
            refine take_ (i := 32) (N := some 106) (v := ?_) (a' := ?_) #[oI, oI, oI, oI, oI, oI, oI, oI, oI, oI, oI, oI, oI, oI, oI, oI, oI, oI, oI, oI, oI, oI, oI, oI, oI, oI, oI, oI, oI, oI, oI, oI, oI, oI, oI, oO, oO] rfl rfl (take_ofW HT_.out HW_.out (by kernel_rfl)) (fun _ _ _ h => h) (Or.inl ⟨by rfl, ?_⟩) hHeld ?_ ?_
            rotate_left
            ·rintro w' ⟨s0, s1, s2, s3, s4, s5, s6, s7, s8, s9, s10, s11, s12, s13, s14, s15, s16, s17, s18, s19, s20, s21, s22⟩
             go_simp
             with_reducible rfl
            rotate_left
            ·simp only [Act.put, sT, s0, s1, i64_w, i32_w]
             rfl
            refine pure_ (i := 35) (N := some 109) (v := ?_) (a' := ?_) #[oI, oI, oI, oI, oI, oI, oI, oI, oI, oI, oI, oI, oI, oI, oI, oI, oI, oI, oI, oI, oI, oI, oI, oI, oI, oI, oI, oI, oI, oI, oI, oI, oI, oI, oI, oI, oO] rfl rfl (any_of HT_.out (by kernel_rfl)) (fun _ _ _ h => h) (Or.inl ⟨by rfl, ?_⟩) ?_ ?_
            rotate_left
            ·intro w'
             go_simp
             with_reducible rfl
            rotate_left
            ·simp only [Act.put, sT, s0, s1, i64_w, i32_w]
             rfl
            refine pure_ (i := 36) (N := some 110) (v := ?_) (a' := ?_) #[oI, oI, oI, oI, oI, oI, oI, oI, oI, oI, oI, oI, oI, oI, oI, oI, oI, oI, oI, oI, oI, oI, oI, oI, oI, oI, oI, oI, oI, oI, oI, oI, oI, oI, oI, oI, oI] rfl rfl (any_of HT_.out (by kernel_rfl)) (fun _ _ _ h => h) (Or.inl ⟨by rfl, ?_⟩) ?_ ?_
            rotate_left
            ·intro w'
             go_simp
             with_reducible rfl
            rotate_left
            ·simp only [Act.put, sT, s0, s1, i64_w, i32_w]
             rfl
            refine done_ (done_of HT_.out (by kernel_rfl)) ?_
            try go_wp2
            go_meet
            case rel => exact ⟨_, ((((rd_T56 ay (ji77)).f4) != (wrap64 (aK)))), (by first | rfl | (simp; done) | (simp only [← hji77] <;> (first | rfl | simp)) | (simp [*]; done)), H', ⟨by have := cE.out; first | omega | exact Nat.le_refl _⟩, ⟨zV aH.out⟩, ⟨zV aI.out⟩, ⟨zV aJ.out⟩, ⟨zV bc.out⟩, ⟨zV a8.out⟩, ⟨zV bd.out⟩, ⟨zB al.out⟩, ⟨zB ae.out⟩, ⟨zB ad.out⟩, ⟨zB af.out⟩, ⟨zB ax.out⟩, ⟨zB aC.out⟩, ⟨by repeat (first | (with_reducible first | exact HB.out | apply pA | apply pN | apply pD | refine pS ?_ aA.out | refine pS ?_ aB.out | refine pS ?_ aG.out | refine pS ?_ aL.out | refine pS ?_ aQ.out | refine pS ?_ br.out) | exact HB.out)⟩⟩
           ·rw [if_neg c80] at H
            have ef : (((rd_T56 ay (ji77)).f2) == az) = false := beq_eq_false_iff_ne.mpr c80
            have eg : (((rd_T56 ay (ji77)).f2) != az) = true := bne_iff_ne.mpr c80
            exact absurd H (by rw [portreevelaw17_MeterOps.j1_true]; simp)
          ·rw [if_neg c79] at H
           exact absurd H (by simp)
         ·rw [if_neg c78] at H
          exact absurd H (by simp)
       ·rw [if_neg c71] at H
        have ct : (bY == 0) = false := beq_eq_false_iff_ne.mpr c71
        have cF : (bY != 0) = true := bne_iff_ne.mpr c71
        (first | rw [ct] | (simp only [i64_w, i32_w]; rw [ct]) | skip)
        exact absurd H (by rw [portreevelaw17_MeterOps.j1_true]; simp)
      case rest =>
       clear HC32
       try clear c2
       try clear p2
       try clear p4
       try clear q4
       try clear hx4
       try clear c7
       try clear c24
       try clear p48
       try clear q48
       try clear hx48
       try clear c71
       try clear ct
       try clear cF
       try clear c78
       try clear c79
       try clear hx480_0
       try clear hx480_1
       try clear hx480_2
       try clear hx480_3
       try clear hx480_4
       try clear p480
       try clear q480
       obtain ⟨kq, cr, rfl, HA, fz, bW, b1, b2, b3, b4, b5, al, ae, ad, af, ax, aC, HB⟩ := hcut
       cases kq with
       | zero => exact absurd HA.out (by simp [portreevelaw17_MeterOps.j1])
       | succ fA =>
        have H := HA.out
        clear HA
        simp only [portreevelaw17_MeterOps.j1] at H
        by_cases c89 : cr = true
        ·subst c89
         have H1 : (none) = some r := by rw [if_pos rfl] at H; exact H
         clear H
         have H := H1
         clear H1
         exact absurd H (by simp)
        ·replace c89 := Bool.eq_false_iff.mpr c89
         subst c89
         have H1 : (if bF = 0 then (if bp = true then (if 0 ≤ ab then (if ab < (aF.length : Int) then (if ((rd_T51 aF ab).f4) = az then (some (((rd_T51 aF ab).f5) == aD)) else (some false)) else (none)) else (none)) else (some false)) else (if bp = true then (some ((wrap64 ((ak.length : Int) + (aa.length : Int))) == 60)) else (some false))) = some r := by rw [if_neg (show ¬ (false = true) by decide)] at H; exact H
         clear H
         have H := H1
         clear H1
         by_cases c90 : bF = 0
         ·rw [if_pos c90] at H
          have ei : (bF == 0) = true := beq_iff_eq.mpr c90
          have ej : (bF != 0) = false := bne_eq_false_iff_eq.mpr c90
          clear c90
          by_cases c91 : bp = true
          ·subst c91
           have H1 : (if 0 ≤ ab then (if ab < (aF.length : Int) then (if ((rd_T51 aF ab).f4) = az then (some (((rd_T51 aF ab).f5) == aD)) else (some false)) else (none)) else (none)) = some r := by rw [if_pos rfl] at H; exact H
           clear H
           have H := H1
           clear H1
           by_cases c92 : 0 ≤ ab
           ·rw [if_pos c92] at H
            have fp : decide (0 ≤ ab) = true := decide_eq_true c92
            clear c92
            by_cases c93 : ab < (aF.length : Int)
            ·rw [if_pos c93] at H
             have fq : decide (ab < (aF.length : Int)) = true := decide_eq_true c93
             clear c93
             by_cases c94 : ((rd_T51 aF ab).f4) = az
             ·rw [if_pos c94] at H
              have ek : (((rd_T51 aF ab).f4) == az) = true := beq_iff_eq.mpr c94
              have el : (((rd_T51 aF ab).f4) != az) = false := bne_eq_false_iff_eq.mpr c94
              clear c94
              clear hlaw_
              obtain rfl := Option.some.inj H
              try go_wp2
              have n0_ := Aside0.mk (Kd.V_drew bW.out)
              have n1_ := Aside0.mk (Kd.V_drew b1.out)
              have n2_ := Aside0.mk (Kd.V_drew b2.out)
              have n3_ := Aside0.mk (Kd.V_drew b3.out)
              have n4_ := Aside0.mk (Kd.V_drew b4.out)
              have n5_ := Aside0.mk (Kd.V_drew b5.out)
              have n6_ := Aside0.mk (qD al.out)
              have n7_ := Aside0.mk (qD ae.out)
              have n8_ := Aside0.mk (qD ad.out)
              have n9_ := Aside0.mk (qD af.out)
              have n10_ := Aside0.mk (qD ax.out)
              have n11_ := Aside0.mk (qD aC.out)
              have n12_ := Aside0.mk (pD HB.out)
              clear bW
              clear b1
              clear b2
              clear b3
              clear b4
              clear b5
              clear al
              clear ae
              clear ad
              clear af
              clear ax
              clear aC
              clear HB
              have bW := n0_
              have b1 := n1_
              have b2 := n2_
              have b3 := n3_
              have b4 := n4_
              have b5 := n5_
              have al := n6_
              have ae := n7_
              have ad := n8_
              have af := n9_
              have ax := n10_
              have aC := n11_
              have HB := n12_
              clear n0_ n1_ n2_ n3_ n4_ n5_ n6_ n7_ n8_ n9_ n10_ n11_ n12_
              have p482 : 0 ≤ (ab : Int) := of_decide_eq_true (by first | (with_reducible assumption) | assumption)
              have q482 : ab < (aF.length : Int) := of_decide_eq_true (by first | (with_reducible assumption) | assumption)
              obtain ⟨bE, e482, hx482_0, hx482_1, hx482_2, hx482_3, hx482_4, hx482_5⟩ := at_T51 (Kd.V_reads' bW.out).2.2 ab p482 q482
              cases e482
              replace p482 := eq_true p482
              replace q482 := eq_true q482
              have p483 : 0 ≤ (ab : Int) := of_decide_eq_true (by first | (with_reducible assumption) | assumption)
              have q483 : ab < (aF.length : Int) := of_decide_eq_true (by first | (with_reducible assumption) | assumption)
              obtain ⟨em, e483, hx483_0, hx483_1, hx483_2, hx483_3, hx483_4, hx483_5⟩ := at_T51 (Kd.V_reads' bW.out).2.2 ab p483 q483
              obtain rfl : bE = em := (by injection e483)
              replace p483 := eq_true p483
              replace q483 := eq_true q483
              refine start_ (n := 24) (S := fun w' => w'.cell? ⟨ag, 0, none⟩ = some (.int .i64 bb) ∧ w'.cell? ⟨ag, 1, none⟩ = some (.slice (some bE) aF.length bj) ∧ w'.cell? ⟨ag, 2, none⟩ = some (.slice bl aS.length bm) ∧ w'.cell? ⟨ag, 3, none⟩ = some (.slice bn aT.length bo) ∧ w'.cell? ⟨ai, 0, none⟩ = some (.int .u64 az) ∧ w'.cell? ⟨ai, 1, none⟩ = some (.int .u64 aD) ∧ w'.cell? ⟨ai, 2, none⟩ = some (.int .i64 aE) ∧ w'.cell? (bE.add ((ab).toNat * 6)) = some (.int .i64 ((rd_T51 aF ab).f0)) ∧ w'.cell? ⟨(bE.add ((ab).toNat * 6)).block, (bE.add ((ab).toNat * 6)).off + 1, none⟩ = some (.int .i64 ((rd_T51 aF ab).f1)) ∧ w'.cell? ⟨(bE.add ((ab).toNat * 6)).block, (bE.add ((ab).toNat * 6)).off + 2, none⟩ = some (.int .u32 ((rd_T51 aF ab).f2)) ∧ w'.cell? ⟨(bE.add ((ab).toNat * 6)).block, (bE.add ((ab).toNat * 6)).off + 3, none⟩ = some (.string ((rd_T51 aF ab).f3)) ∧ w'.cell? ⟨(bE.add ((ab).toNat * 6)).block, (bE.add ((ab).toNat * 6)).off + 4, none⟩ = some (.int .u64 ((rd_T51 aF ab).f4)) ∧ w'.cell? ⟨(bE.add ((ab).toNat * 6)).block, (bE.add ((ab).toNat * 6)).off + 5, none⟩ = some (.int .u64 ((rd_T51 aF ab).f5)) ∧ w'.cell? (bE.add ((ab).toNat * 6)) = some (.int .i64 ((rd_T51 aF ab).f0)) ∧ w'.cell? ⟨(bE.add ((ab).toNat * 6)).block, (bE.add ((ab).toNat * 6)).off + 1, none⟩ = some (.int .i64 ((rd_T51 aF ab).f1)) ∧ w'.cell? ⟨(bE.add ((ab).toNat * 6)).block, (bE.add ((ab).toNat * 6)).off + 2, none⟩ = some (.int .u32 ((rd_T51 aF ab).f2)) ∧ w'.cell? ⟨(bE.add ((ab).toNat * 6)).block, (bE.add ((ab).toNat * 6)).off + 3, none⟩ = some (.string ((rd_T51 aF ab).f3)) ∧ w'.cell? ⟨(bE.add ((ab).toNat * 6)).block, (bE.add ((ab).toNat * 6)).off + 4, none⟩ = some (.int .u64 ((rd_T51 aF ab).f4)) ∧ w'.cell? ⟨(bE.add ((ab).toNat * 6)).block, (bE.add ((ab).toNat * 6)).off + 5, none⟩ = some (.int .u64 ((rd_T51 aF ab).f5))) (ds := []) #[oO, oO, oO, oO, oO, oO, oO, oO, oO, oO, oO, oO, oO, oO, oO, oO, oO, oO, oO, oO, oO, oO, oO, oO] (by kernel_rfl) rfl rfl ⟨(blk_cell ax.out 0).trans rfl, (blk_cell ax.out 1).trans rfl, (blk_cell ax.out 2).trans rfl, (blk_cell ax.out 3).trans rfl, (blk_cell af.out 0).trans rfl, (blk_cell af.out 1).trans rfl, (blk_cell af.out 2).trans rfl, hx482_0, hx482_1, hx482_2, hx482_3, hx482_4, hx482_5, hx483_0, hx483_1, hx483_2, hx483_3, hx483_4, hx483_5⟩ (fun hHeld => ?_); refine with_tabW portreevelaw17_MeterOps.tab17 portreevelaw17_MeterOps.bits17 (fun HT_ HW_ => ?_)
              generalize wc.drew = w95 at bW b1 b2 b3 b4 b5 al ae ad af ax aC HB hx482_0 hx482_1 hx482_2 hx482_3 hx482_4 hx482_5 hx483_0 hx483_1 hx483_2 hx483_3 hx483_4 hx483_5 hHeld ⊢
              refine pure_ (i := 0) (N := some 124) (v := ?_) (a' := ?_) #[oI, oO, oO, oO, oO, oO, oO, oO, oO, oO, oO, oO, oO, oO, oO, oO, oO, oO, oO, oO, oO, oO, oO, oO] rfl rfl (any_of HT_.out (by kernel_rfl)) (fun _ _ _ h => h) (Or.inl ⟨by rfl, ?_⟩) ?_ ?_
              rotate_left
              ·intro w'
               go_simp
               with_reducible rfl
              rotate_left
              ·simp only [Act.put, sT, s0, s1, i64_w, i32_w]
               rfl
              refine pure_ (i := 1) (N := some 125) (v := ?_) (a' := ?_) #[oI, oI, oO, oO, oO, oO, oO, oO, oO, oO, oO, oO, oO, oO, oO, oO, oO, oO, oO, oO, oO, oO, oO, oO] rfl rfl (any_of HT_.out (by kernel_rfl)) (fun _ _ _ h => h) (Or.inl ⟨by rfl, ?_⟩) ?_ ?_
              rotate_left
              ·intro w'
               go_simp
               with_reducible rfl
              rotate_left
              ·simp only [Act.put, sT, s0, s1, i64_w, i32_w]
               rfl
              refine pure_ (i := 2) (N := some 126) (v := ?_) (a' := ?_) #[oI, oI, oI, oO, oO, oO, oO, oO, oO, oO, oO, oO, oO, oO, oO, oO, oO, oO, oO, oO, oO, oO, oO, oO] rfl rfl (any_of HT_.out (by kernel_rfl)) (fun _ _ _ h => h) (Or.inl ⟨by rfl, ?_⟩) ?_ ?_
              rotate_left
              ·intro w'
               go_simp
               with_reducible rfl
              rotate_left
              ·simp only [Act.put, sT, s0, s1, i64_w, i32_w]
               rfl
              refine pure_ (i := 4) (N := some 128) (v := ?_) (a' := ?_) #[oI, oI, oI, oO, oI, oO, oO, oO, oO, oO, oO, oO, oO, oO, oO, oO, oO, oO, oO, oO, oO, oO, oO, oO] rfl rfl (any_of HT_.out (by kernel_rfl)) (fun _ _ _ h => h) (Or.inl ⟨by rfl, ?_⟩) ?_ ?_
              rotate_left
              ·intro w'
               go_simp
               with_reducible rfl
              rotate_left
              ·simp only [Act.put, sT, s0, s1, i64_w, i32_w]
               rfl
              refine pure_ (i := 8) (N := some 132) (v := ?_) (a' := ?_) #[oI, oI, oI, oO, oI, oO, oO, oO, oI, oO, oO, oO, oO, oO, oO, oO, oO, oO, oO, oO, oO, oO, oO, oO] rfl rfl (any_of HT_.out (by kernel_rfl)) (fun _ _ _ h => h) (Or.inl ⟨by rfl, ?_⟩) ?_ ?_
              rotate_left
              ·intro w'
               go_simp
               with_reducible rfl
              rotate_left
              ·simp only [Act.put, sT, s0, s1, i64_w, i32_w]
               rfl
              refine take_ (i := 3) (N := some 127) (v := ?_) (a' := ?_) #[oI, oI, oI, oI, oI, oO, oO, oO, oI, oO, oO, oO, oO, oO, oO, oO, oO, oO, oO, oO, oO, oO, oO, oO] rfl rfl (take_ofW HT_.out HW_.out (by kernel_rfl)) (fun _ _ _ h => h) (Or.inl ⟨by rfl, ?_⟩) hHeld ?_ ?_
              rotate_left
              ·rintro w' ⟨s0, s1, s2, s3, s4, s5, s6, s7, s8, s9, s10, s11, s12, s13, s14, s15, s16, s17, s18⟩
               go_simp
               with_reducible rfl
              rotate_left
              ·simp only [Act.put, sT, s0, s1, i64_w, i32_w]
               rfl
              refine pure_ (i := 5) (N := some 129) (v := ?_) (a' := ?_) #[oI, oI, oI, oI, oI, oI, oO, oO, oI, oO, oO, oO, oO, oO, oO, oO, oO, oO, oO, oO, oO, oO, oO, oO] rfl rfl (any_of HT_.out (by kernel_rfl)) (fun _ _ _ h => h) (Or.inl ⟨by rfl, ?_⟩) ?_ ?_
              rotate_left
              ·intro w'
               go_simp
               with_reducible rfl
              rotate_left
              ·simp only [Act.put, sT, s0, s1, i64_w, i32_w]
               rfl
              refine pure_ (i := 6) (N := some 130) (v := ?_) (a' := ?_) #[oI, oI, oI, oI, oI, oI, oI, oO, oI, oO, oO, oO, oO, oO, oO, oO, oO, oO, oO, oO, oO, oO, oO, oO] rfl rfl (any_of HT_.out (by kernel_rfl)) (fun _ _ _ h => h) (Or.inl ⟨by rfl, ?_⟩) ?_ ?_
              rotate_left
              ·intro w'
               go_simp
               with_reducible rfl
              rotate_left
              ·simp only [Act.put, sT, s0, s1, i64_w, i32_w]
               rfl
              refine take_ (i := 7) (N := some 131) (v := ?_) (a' := ?_) #[oI, oI, oI, oI, oI, oI, oI, oI, oI, oO, oO, oO, oO, oO, oO, oO, oO, oO, oO, oO, oO, oO, oO, oO] rfl rfl (take_ofW HT_.out HW_.out (by kernel_rfl)) (fun _ _ _ h => h) (Or.inl ⟨by rfl, ?_⟩) hHeld ?_ ?_
              rotate_left
              ·rintro w' ⟨s0, s1, s2, s3, s4, s5, s6, s7, s8, s9, s10, s11, s12, s13, s14, s15, s16, s17, s18⟩
               go_simp
               with_reducible rfl
              rotate_left
              ·simp only [Act.put, sT, s0, s1, i64_w, i32_w]
               rfl
              refine take_ (i := 9) (N := some 133) (v := ?_) (a' := ?_) #[oI, oI, oI, oI, oI, oI, oI, oI, oI, oI, oO, oO, oO, oO, oO, oO, oO, oO, oO, oO, oO, oO, oO, oO] rfl rfl (take_ofW HT_.out HW_.out (by kernel_rfl)) (fun _ _ _ h => h) (Or.inl ⟨by rfl, ?_⟩) hHeld ?_ ?_
              rotate_left
              ·rintro w' ⟨s0, s1, s2, s3, s4, s5, s6, s7, s8, s9, s10, s11, s12, s13, s14, s15, s16, s17, s18⟩
               go_simp
               with_reducible rfl
              rotate_left
              ·simp only [Act.put, sT, s0, s1, i64_w, i32_w]
               rfl
              refine pure_ (i := 10) (N := some 134) (v := ?_) (a' := ?_) #[oI, oI, oI, oI, oI, oI, oI, oI, oI, oI, oI, oO, oO, oO, oO, oO, oO, oO, oO, oO, oO, oO, oO, oO] rfl rfl (any_of HT_.out (by kernel_rfl)) (fun _ _ _ h => h) (Or.inl ⟨by rfl, ?_⟩) ?_ ?_
              rotate_left
              ·intro w'
               go_simp
               with_reducible rfl
              rotate_left
              ·simp only [Act.put, sT, s0, s1, i64_w, i32_w]
               rfl
              refine pure_ (i := 11) (N := some 135) (v := ?_) (a' := ?_) #[oI, oI, oI, oI, oI, oI, oI, oI, oI, oI, oI, oI, oO, oO, oO, oO, oO, oO, oO, oO, oO, oO, oO, oO] rfl rfl (any_of HT_.out (by kernel_rfl)) (fun _ _ _ h => h) (Or.inl ⟨by rfl, ?_⟩) ?_ ?_
              rotate_left
              ·intro w'
               go_simp
               with_reducible rfl
              rotate_left
              ·simp only [Act.put, sT, s0, s1, i64_w, i32_w]
               rfl
              refine pure_ (i := 12) (N := some 136) (v := ?_) (a' := ?_) #[oI, oI, oI, oI, oI, oI, oI, oI, oI, oI, oI, oI, oI, oO, oO, oO, oO, oO, oO, oO, oO, oO, oO, oO] rfl rfl (any_of HT_.out (by kernel_rfl)) (fun _ _ _ h => h) (Or.inl ⟨by rfl, ?_⟩) ?_ ?_
              rotate_left
              ·intro w'
               go_simp
               with_reducible rfl
              rotate_left
              ·simp only [Act.put, sT, s0, s1, i64_w, i32_w]
               rfl
              refine pure_ (i := 13) (N := some 137) (v := ?_) (a' := ?_) #[oI, oI, oI, oI, oI, oI, oI, oI, oI, oI, oI, oI, oI, oI, oO, oO, oO, oO, oO, oO, oO, oO, oO, oO] rfl rfl (any_of HT_.out (by kernel_rfl)) (fun _ _ _ h => h) (Or.inl ⟨by rfl, ?_⟩) ?_ ?_
              rotate_left
              ·intro w'
               go_simp
               with_reducible rfl
              rotate_left
              ·simp only [Act.put, sT, s0, s1, i64_w, i32_w]
               rfl
              refine pure_ (i := 15) (N := some 139) (v := ?_) (a' := ?_) #[oI, oI, oI, oI, oI, oI, oI, oI, oI, oI, oI, oI, oI, oI, oO, oI, oO, oO, oO, oO, oO, oO, oO, oO] rfl rfl (any_of HT_.out (by kernel_rfl)) (fun _ _ _ h => h) (Or.inl ⟨by rfl, ?_⟩) ?_ ?_
              rotate_left
              ·intro w'
               go_simp
               with_reducible rfl
              rotate_left
              ·simp only [Act.put, sT, s0, s1, i64_w, i32_w]
               rfl
              refine pure_ (i := 19) (N := some 143) (v := ?_) (a' := ?_) #[oI, oI, oI, oI, oI, oI, oI, oI, oI, oI, oI, oI, oI, oI, oO, oI, oO, oO, oO, oI, oO, oO, oO, oO] rfl rfl (any_of HT_.out (by kernel_rfl)) (fun _ _ _ h => h) (Or.inl ⟨by rfl, ?_⟩) ?_ ?_
              rotate_left
              ·intro w'
               go_simp
               with_reducible rfl
              rotate_left
              ·simp only [Act.put, sT, s0, s1, i64_w, i32_w]
               rfl
              refine take_ (i := 14) (N := some 138) (v := ?_) (a' := ?_) #[oI, oI, oI, oI, oI, oI, oI, oI, oI, oI, oI, oI, oI, oI, oI, oI, oO, oO, oO, oI, oO, oO, oO, oO] rfl rfl (take_ofW HT_.out HW_.out (by kernel_rfl)) (fun _ _ _ h => h) (Or.inl ⟨by rfl, ?_⟩) hHeld ?_ ?_
              rotate_left
              ·rintro w' ⟨s0, s1, s2, s3, s4, s5, s6, s7, s8, s9, s10, s11, s12, s13, s14, s15, s16, s17, s18⟩
               go_simp
               with_reducible rfl
              rotate_left
              ·simp only [Act.put, sT, s0, s1, i64_w, i32_w]
               rfl
              refine pure_ (i := 16) (N := some 140) (v := ?_) (a' := ?_) #[oI, oI, oI, oI, oI, oI, oI, oI, oI, oI, oI, oI, oI, oI, oI, oI, oI, oO, oO, oI, oO, oO, oO, oO] rfl rfl (any_of HT_.out (by kernel_rfl)) (fun _ _ _ h => h) (Or.inl ⟨by rfl, ?_⟩) ?_ ?_
              rotate_left
              ·intro w'
               go_simp
               with_reducible rfl
              rotate_left
              ·simp only [Act.put, sT, s0, s1, i64_w, i32_w]
               rfl
              refine pure_ (i := 17) (N := some 141) (v := ?_) (a' := ?_) #[oI, oI, oI, oI, oI, oI, oI, oI, oI, oI, oI, oI, oI, oI, oI, oI, oI, oI, oO, oI, oO, oO, oO, oO] rfl rfl (any_of HT_.out (by kernel_rfl)) (fun _ _ _ h => h) (Or.inl ⟨by rfl, ?_⟩) ?_ ?_
              rotate_left
              ·intro w'
               go_simp
               with_reducible rfl
              rotate_left
              ·simp only [Act.put, sT, s0, s1, i64_w, i32_w]
               rfl
              refine take_ (i := 18) (N := some 142) (v := ?_) (a' := ?_) #[oI, oI, oI, oI, oI, oI, oI, oI, oI, oI, oI, oI, oI, oI, oI, oI, oI, oI, oI, oI, oO, oO, oO, oO] rfl rfl (take_ofW HT_.out HW_.out (by kernel_rfl)) (fun _ _ _ h => h) (Or.inl ⟨by rfl, ?_⟩) hHeld ?_ ?_
              rotate_left
              ·rintro w' ⟨s0, s1, s2, s3, s4, s5, s6, s7, s8, s9, s10, s11, s12, s13, s14, s15, s16, s17, s18⟩
               go_simp
               with_reducible rfl
              rotate_left
              ·simp only [Act.put, sT, s0, s1, i64_w, i32_w]
               rfl
              refine take_ (i := 20) (N := some 144) (v := ?_) (a' := ?_) #[oI, oI, oI, oI, oI, oI, oI, oI, oI, oI, oI, oI, oI, oI, oI, oI, oI, oI, oI, oI, oI, oO, oO, oO] rfl rfl (take_ofW HT_.out HW_.out (by kernel_rfl)) (fun _ _ _ h => h) (Or.inl ⟨by rfl, ?_⟩) hHeld ?_ ?_
              rotate_left
              ·rintro w' ⟨s0, s1, s2, s3, s4, s5, s6, s7, s8, s9, s10, s11, s12, s13, s14, s15, s16, s17, s18⟩
               go_simp
               with_reducible rfl
              rotate_left
              ·simp only [Act.put, sT, s0, s1, i64_w, i32_w]
               rfl
              refine pure_ (i := 21) (N := some 145) (v := ?_) (a' := ?_) #[oI, oI, oI, oI, oI, oI, oI, oI, oI, oI, oI, oI, oI, oI, oI, oI, oI, oI, oI, oI, oI, oI, oO, oO] rfl rfl (any_of HT_.out (by kernel_rfl)) (fun _ _ _ h => h) (Or.inl ⟨by rfl, ?_⟩) ?_ ?_
              rotate_left
              ·intro w'
               go_simp
               with_reducible rfl
              rotate_left
              ·simp only [Act.put, sT, s0, s1, i64_w, i32_w]
               rfl
              refine pure_ (i := 22) (N := some 146) (v := ?_) (a' := ?_) #[oI, oI, oI, oI, oI, oI, oI, oI, oI, oI, oI, oI, oI, oI, oI, oI, oI, oI, oI, oI, oI, oI, oI, oO] rfl rfl (any_of HT_.out (by kernel_rfl)) (fun _ _ _ h => h) (Or.inl ⟨by rfl, ?_⟩) ?_ ?_
              rotate_left
              ·intro w'
               go_simp
               with_reducible rfl
              rotate_left
              ·simp only [Act.put, sT, s0, s1, i64_w, i32_w]
               rfl
              refine pure_ (i := 23) (N := some 2) (v := ?_) (a' := ?_) #[oI, oI, oI, oI, oI, oI, oI, oI, oI, oI, oI, oI, oI, oI, oI, oI, oI, oI, oI, oI, oI, oI, oI, oI] rfl rfl (any_of HT_.out (by kernel_rfl)) (fun _ _ _ h => h) (Or.inl ⟨by rfl, ?_⟩) ?_ ?_
              rotate_left
              ·intro w'
               go_simp
               with_reducible rfl
              rotate_left
              ·simp only [Act.put, sT, s0, s1, i64_w, i32_w]
               rfl
              refine done_ (done_of HT_.out (by kernel_rfl)) ?_
              try go_wp2
              go_ret
              exact ⟨by first | rfl | (simp [errW_none, errW_some] <;> rfl) | (simp [*, errW_none, errW_some] <;> rfl), by repeat (first | (with_reducible first | exact HB.out | apply pA | apply pN | apply pD | refine pS ?_ aA.out | refine pS ?_ aB.out | refine pS ?_ aG.out | refine pS ?_ aL.out | refine pS ?_ aQ.out | refine pS ?_ br.out) | exact HB.out)⟩
             ·rw [if_neg c94] at H
              have ek : (((rd_T51 aF ab).f4) == az) = false := beq_eq_false_iff_ne.mpr c94
              have el : (((rd_T51 aF ab).f4) != az) = true := bne_iff_ne.mpr c94
              exact absurd ((Option.some.inj H).trans hlaw_.out) (by decide)
            ·rw [if_neg c93] at H
             exact absurd H (by simp)
           ·rw [if_neg c92] at H
            exact absurd H (by simp)
          ·replace c91 := Bool.eq_false_iff.mpr c91
           subst c91
           have H1 : (some false) = some r := by rw [if_neg (show ¬ (false = true) by decide)] at H; exact H
           clear H
           have H := H1
           clear H1
           exact absurd ((Option.some.inj H).trans hlaw_.out) (by decide)
         ·rw [if_neg c90] at H
          have ei : (bF == 0) = false := beq_eq_false_iff_ne.mpr c90
          have ej : (bF != 0) = true := bne_iff_ne.mpr c90
          by_cases c96 : bp = true
          ·subst c96
           have H1 : (some ((wrap64 ((ak.length : Int) + (aa.length : Int))) == 60)) = some r := by rw [if_pos rfl] at H; exact H
           clear H
           have H := H1
           clear H1
           clear hlaw_
           obtain rfl := Option.some.inj H
           have fr := bV.out
           have fs := bU.out
           have ft := co.out
           have fu := cw.out
           have fv := cp.out
           have fw := cy.out
           have eZ := bx.out
           have e0 := bH.out
           have e1 := bt.out
           have e2 := bI.out
           obtain ⟨eq, er, es, et, eu, ev, ew, ex⟩ := bk4 ae.out
           go_wp2
           go_ret
           exact ⟨by first | rfl | (simp [errW_none, errW_some] <;> rfl) | (simp [*, errW_none, errW_some] <;> rfl), by repeat (first | (with_reducible first | exact HB.out | apply pA | apply pN | apply pD | refine pS ?_ aA.out | refine pS ?_ aB.out | refine pS ?_ aG.out | refine pS ?_ aL.out | refine pS ?_ aQ.out | refine pS ?_ br.out) | exact HB.out)⟩
          ·replace c96 := Bool.eq_false_iff.mpr c96
           subst c96
           have H1 : (some false) = some r := by rw [if_neg (show ¬ (false = true) by decide)] at H; exact H
           clear H
           have H := H1
           clear H1
           exact absurd ((Option.some.inj H).trans hlaw_.out) (by decide)
     ·rw [if_neg c26] at H
      exact absurd H (by simp)
    ·rw [if_neg c25] at H
     exact absurd H (by simp)

end Go.Proofs.Ytlimlbhhbjaljaa.Q

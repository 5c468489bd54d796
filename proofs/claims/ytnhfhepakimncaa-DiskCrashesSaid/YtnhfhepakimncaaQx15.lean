-- written by this session's own program (wip/tools/myprint.py), over the kit's print
import Derived.Test.YtnhfhepakimncaaQx0
import Derived.Test.YtnhfhepakimncaaQx4
import Derived.Test.YtnhfhepakimncaaQx6
import Derived.Test.YtnhfhepakimncaaQx7
import Derived.Test.YtnhfhepakimncaaQx9
import Derived.Test.YtnhfhepakimncaaQx10
import Derived.Test.YtnhfhepakimncaaQx11
import Derived.Test.YtnhfhepakimncaaQx12
namespace Go.Proofs.Ytnhfhepakimncaa.Q
open Go.RowKit Go.Proofs.YtnhfhepakimncaaW.PrintWords Go.Proofs.YtnhfhepakimncaaW.PrintLast Go.Proofs.YtnhfhepakimncaaW.PrintMore
open Go.Proofs.YtnhfhepakimncaaV
attribute [local go_sem] max2_int min2_int max_two min_two max_three min_three max_four min_four   -- for this text's walks alone
set_option linter.unusedVariables false
set_option linter.unusedSimpArgs false

/-! ### portreevelaw03_DiskCrashes: function 4 -/
mutual
def portreevelaw03_DiskCrashes.j0 : Nat → Int → List Bool → Bool → Bool → List (List Int) → List (S47) → Option (Bool)
 | 0, _, _, _, _, _, _ => none
 | k + 1, x1, x2, x7, x36, x345000, x345001 => if x36 = true then (some x7) else ((disk_Crash.f k x345000 x345001 x2).bind fun bt348 => ((disk_Read.f k bt348.1 bt348.2 x1).bind fun bt355 => (if 0 ≤ x1 then (if x1 < (x345000.length : Int) then (if 0 ≤ (x345001.length : Int) then (if ((x345001.length : Int) : Int).toNat ≤ 281474976710656 then (portreevelaw03_DiskCrashes.l0 k x1 x2 x7 bt355.1 bt355.2 (rd_L2 x345000 x1) (List.replicate ((x345001.length : Int) : Int).toNat false) 0 x345000 x345001 bt348.1 bt348.2) else (none)) else (none)) else (none)) else (none))))
def portreevelaw03_DiskCrashes.l0 : Nat → Int → List Bool → Bool → List Int → Int → List Int → List Bool → Int → List (List Int) → List (S47) → List (List Int) → List (S47) → Option (Bool)
 | 0, _, _, _, _, _, _, _, _, _, _, _, _ => none
 | k + 1, x1, x2, x7, x9, x10, x11, x12, x13, x345000, x345001, x355000, x355001 => if x13 < (x345001.length : Int) then (if 0 ≤ x13 then (if x13 < (x12.length : Int) then ((some (x12.set (x13 : Int).toNat true : List Bool)).bind fun y363 => (if ((rd_T47 x345001 x13).f0) = x1 then (if x13 < (x2.length : Int) then (if rdOf false x2 x13 = true then (portreevelaw03_DiskCrashes.l0 k x1 x2 x7 x9 x10 ((rd_T47 x345001 x13).f1) y363 (wrap64 (x13 + 1)) x345000 x345001 x355000 x355001) else (portreevelaw03_DiskCrashes.l0 k x1 x2 x7 x9 x10 x11 y363 (wrap64 (x13 + 1)) x345000 x345001 x355000 x355001)) else (portreevelaw03_DiskCrashes.l0 k x1 x2 x7 x9 x10 x11 y363 (wrap64 (x13 + 1)) x345000 x345001 x355000 x355001)) else (portreevelaw03_DiskCrashes.l0 k x1 x2 x7 x9 x10 x11 y363 (wrap64 (x13 + 1)) x345000 x345001 x355000 x355001))) else (none)) else (none)) else ((disk_Flush.f k x345000 x345001).bind fun bt367 => (if x10 = 0 then ((portreeveref01_Row.f k x9 x11).bind fun t374 => (if t374 = true then (if (x355001.length : Int) = 0 then ((disk_Crash.f k x345000 x345001 x12).bind fun bt375 => ((portreeveref03_Same.f k bt375.1 bt375.2 bt367.1 bt367.2).bind fun t381 => (portreevelaw03_DiskCrashes.j2 k x2 x7 (!t381) bt367.1 bt367.2))) else (portreevelaw03_DiskCrashes.j2 k x2 x7 true bt367.1 bt367.2)) else (portreevelaw03_DiskCrashes.j2 k x2 x7 true bt367.1 bt367.2))) else (portreevelaw03_DiskCrashes.j2 k x2 x7 true bt367.1 bt367.2)))
def portreevelaw03_DiskCrashes.j2 : Nat → List Bool → Bool → Bool → List (List Int) → List (S47) → Option (Bool)
 | 0, _, _, _, _, _ => none
 | k + 1, x2, x7, x115, x374000, x374001 => if x115 = true then (some false) else (if x7 = true then ((disk_Flush.f k x374000 x374001).bind fun bt382 => ((portreeveref03_Same.f k bt382.1 bt382.2 x374000 x374001).bind fun t388 => (if t388 = true then ((disk_Crash.f k x374000 x374001 x2).bind fun bt389 => ((portreeveref03_Same.f k bt389.1 bt389.2 x374000 x374001).bind fun t395 => (some t395))) else (some false)))) else (some false))
end
def portreevelaw03_DiskCrashes.f (k : Nat) (l0_0 : List (List Int)) (l0_1 : List (S47)) (a1 : Int) (l2 : List Bool) : Option (Bool) := (portreevelaw03_shown.f k).bind fun t345 => ((portreeveref03_Small.f k l0_0 l0_1).bind fun t346 => (if t346 = true then ((portreeveref03_Right.f k l0_0 l0_1).bind fun t347 => (if t347 = true then (if a1 < 0 then (portreevelaw03_DiskCrashes.j0 k a1 l2 t345 true l0_0 l0_1) else (if a1 ≥ 64 then (portreevelaw03_DiskCrashes.j0 k a1 l2 t345 true l0_0 l0_1) else (portreevelaw03_DiskCrashes.j0 k a1 l2 t345 (decide ((l2.length : Int) > 100)) l0_0 l0_1))) else (portreevelaw03_DiskCrashes.j0 k a1 l2 t345 true l0_0 l0_1))) else (portreevelaw03_DiskCrashes.j0 k a1 l2 t345 true l0_0 l0_1)))
theorem portreevelaw03_DiskCrashes.mono_l : ∀ k, (∀ y0 y1 y2 y3 y4 y5, LeO (portreevelaw03_DiskCrashes.j0 k y0 y1 y2 y3 y4 y5) (portreevelaw03_DiskCrashes.j0 (k + 1) y0 y1 y2 y3 y4 y5)) ∧ (∀ y0 y1 y2 y3 y4 y5 y6 y7 y8 y9 y10 y11, LeO (portreevelaw03_DiskCrashes.l0 k y0 y1 y2 y3 y4 y5 y6 y7 y8 y9 y10 y11) (portreevelaw03_DiskCrashes.l0 (k + 1) y0 y1 y2 y3 y4 y5 y6 y7 y8 y9 y10 y11)) ∧ (∀ y0 y1 y2 y3 y4, LeO (portreevelaw03_DiskCrashes.j2 k y0 y1 y2 y3 y4) (portreevelaw03_DiskCrashes.j2 (k + 1) y0 y1 y2 y3 y4))
 | 0 => ⟨fun _ _ _ _ _ _ r h => by simp [portreevelaw03_DiskCrashes.j0] at h, fun _ _ _ _ _ _ _ _ _ _ _ _ r h => by simp [portreevelaw03_DiskCrashes.l0] at h, fun _ _ _ _ _ r h => by simp [portreevelaw03_DiskCrashes.j2] at h⟩
 | k + 1 => by
  obtain ⟨ih0, ih1, ih2⟩ := portreevelaw03_DiskCrashes.mono_l k
  refine ⟨?_, ?_, ?_⟩
  ·intro y0 y1 y2 y3 y4 y5
   unfold portreevelaw03_DiskCrashes.j0
   repeat' first
   | (with_reducible exact ih0 _ _ _ _ _ _)
   | (with_reducible exact ih1 _ _ _ _ _ _ _ _ _ _ _ _)
   | (with_reducible exact ih2 _ _ _ _ _)
   | (with_reducible exact disk_Crash.mono _ _ _ _)
   | (with_reducible exact disk_Flush.mono _ _ _)
   | (with_reducible exact disk_Read.mono _ _ _ _)
   | (with_reducible exact portreevelaw03_shown.mono _)
   | (with_reducible exact portreeveref01_Row.mono _ _ _)
   | (with_reducible exact portreeveref03_Right.mono _ _ _)
   | (with_reducible exact portreeveref03_Same.mono _ _ _ _ _)
   | (with_reducible exact portreeveref03_Small.mono _ _ _)
   | (with_reducible exact LeO.refl _)
   | (with_reducible exact LeO.none _)
   | (with_reducible refine LeO.ite ?_ ?_)
   | (with_reducible refine LeO.bind ?_ (fun _ => ?_))
   | exact ih0 _ _ _ _ _ _
   | exact ih1 _ _ _ _ _ _ _ _ _ _ _ _
   | exact ih2 _ _ _ _ _
   | exact disk_Crash.mono _ _ _ _
   | exact disk_Flush.mono _ _ _
   | exact disk_Read.mono _ _ _ _
   | exact portreevelaw03_shown.mono _
   | exact portreeveref01_Row.mono _ _ _
   | exact portreeveref03_Right.mono _ _ _
   | exact portreeveref03_Same.mono _ _ _ _ _
   | exact portreeveref03_Small.mono _ _ _
   | exact LeO.none _
   | refine LeO.ite ?_ ?_
   | refine LeO.bind ?_ (fun _ => ?_)
  ·intro y0 y1 y2 y3 y4 y5 y6 y7 y8 y9 y10 y11
   unfold portreevelaw03_DiskCrashes.l0
   repeat' first
   | (with_reducible exact ih0 _ _ _ _ _ _)
   | (with_reducible exact ih1 _ _ _ _ _ _ _ _ _ _ _ _)
   | (with_reducible exact ih2 _ _ _ _ _)
   | (with_reducible exact disk_Crash.mono _ _ _ _)
   | (with_reducible exact disk_Flush.mono _ _ _)
   | (with_reducible exact disk_Read.mono _ _ _ _)
   | (with_reducible exact portreevelaw03_shown.mono _)
   | (with_reducible exact portreeveref01_Row.mono _ _ _)
   | (with_reducible exact portreeveref03_Right.mono _ _ _)
   | (with_reducible exact portreeveref03_Same.mono _ _ _ _ _)
   | (with_reducible exact portreeveref03_Small.mono _ _ _)
   | (with_reducible exact LeO.refl _)
   | (with_reducible exact LeO.none _)
   | (with_reducible refine LeO.ite ?_ ?_)
   | (with_reducible refine LeO.bind ?_ (fun _ => ?_))
   | exact ih0 _ _ _ _ _ _
   | exact ih1 _ _ _ _ _ _ _ _ _ _ _ _
   | exact ih2 _ _ _ _ _
   | exact disk_Crash.mono _ _ _ _
   | exact disk_Flush.mono _ _ _
   | exact disk_Read.mono _ _ _ _
   | exact portreevelaw03_shown.mono _
   | exact portreeveref01_Row.mono _ _ _
   | exact portreeveref03_Right.mono _ _ _
   | exact portreeveref03_Same.mono _ _ _ _ _
   | exact portreeveref03_Small.mono _ _ _
   | exact LeO.none _
   | refine LeO.ite ?_ ?_
   | refine LeO.bind ?_ (fun _ => ?_)
  ·intro y0 y1 y2 y3 y4
   unfold portreevelaw03_DiskCrashes.j2
   repeat' first
   | (with_reducible exact ih0 _ _ _ _ _ _)
   | (with_reducible exact ih1 _ _ _ _ _ _ _ _ _ _ _ _)
   | (with_reducible exact ih2 _ _ _ _ _)
   | (with_reducible exact disk_Crash.mono _ _ _ _)
   | (with_reducible exact disk_Flush.mono _ _ _)
   | (with_reducible exact disk_Read.mono _ _ _ _)
   | (with_reducible exact portreevelaw03_shown.mono _)
   | (with_reducible exact portreeveref01_Row.mono _ _ _)
   | (with_reducible exact portreeveref03_Right.mono _ _ _)
   | (with_reducible exact portreeveref03_Same.mono _ _ _ _ _)
   | (with_reducible exact portreeveref03_Small.mono _ _ _)
   | (with_reducible exact LeO.refl _)
   | (with_reducible exact LeO.none _)
   | (with_reducible refine LeO.ite ?_ ?_)
   | (with_reducible refine LeO.bind ?_ (fun _ => ?_))
   | exact ih0 _ _ _ _ _ _
   | exact ih1 _ _ _ _ _ _ _ _ _ _ _ _
   | exact ih2 _ _ _ _ _
   | exact disk_Crash.mono _ _ _ _
   | exact disk_Flush.mono _ _ _
   | exact disk_Read.mono _ _ _ _
   | exact portreevelaw03_shown.mono _
   | exact portreeveref01_Row.mono _ _ _
   | exact portreeveref03_Right.mono _ _ _
   | exact portreeveref03_Same.mono _ _ _ _ _
   | exact portreeveref03_Small.mono _ _ _
   | exact LeO.none _
   | refine LeO.ite ?_ ?_
   | refine LeO.bind ?_ (fun _ => ?_)
theorem portreevelaw03_DiskCrashes.mono : ∀ a0 a1 a2 a3 k, LeO (portreevelaw03_DiskCrashes.f k a0 a1 a2 a3) (portreevelaw03_DiskCrashes.f (k + 1) a0 a1 a2 a3) := by
 intro a0 a1 a2 a3 k
 obtain ⟨ih0, ih1, ih2⟩ := portreevelaw03_DiskCrashes.mono_l k
 unfold portreevelaw03_DiskCrashes.f
 repeat' first
   | (with_reducible exact ih0 _ _ _ _ _ _)
   | (with_reducible exact ih1 _ _ _ _ _ _ _ _ _ _ _ _)
   | (with_reducible exact ih2 _ _ _ _ _)
   | (with_reducible exact disk_Crash.mono _ _ _ _)
   | (with_reducible exact disk_Flush.mono _ _ _)
   | (with_reducible exact disk_Read.mono _ _ _ _)
   | (with_reducible exact portreevelaw03_shown.mono _)
   | (with_reducible exact portreeveref01_Row.mono _ _ _)
   | (with_reducible exact portreeveref03_Right.mono _ _ _)
   | (with_reducible exact portreeveref03_Same.mono _ _ _ _ _)
   | (with_reducible exact portreeveref03_Small.mono _ _ _)
   | (with_reducible exact LeO.refl _)
   | (with_reducible exact LeO.none _)
   | (with_reducible refine LeO.ite ?_ ?_)
   | (with_reducible refine LeO.bind ?_ (fun _ => ?_))
   | exact ih0 _ _ _ _ _ _
   | exact ih1 _ _ _ _ _ _ _ _ _ _ _ _
   | exact ih2 _ _ _ _ _
   | exact disk_Crash.mono _ _ _ _
   | exact disk_Flush.mono _ _ _
   | exact disk_Read.mono _ _ _ _
   | exact portreevelaw03_shown.mono _
   | exact portreeveref01_Row.mono _ _ _
   | exact portreeveref03_Right.mono _ _ _
   | exact portreeveref03_Same.mono _ _ _ _ _
   | exact portreeveref03_Small.mono _ _ _
   | exact LeO.none _
   | refine LeO.ite ?_ ?_
   | refine LeO.bind ?_ (fun _ => ?_)
def portreevelaw03_DiskCrashes.T15 : Bool × List (List Nat × List Nat) := (true, [([], []), ([0], [0]), ([1], [1]), ([2], [2]), ([2], [2]), ([3, 4, 2, 2], [2, 3, 4]), ([5, 2], [2, 5]), ([2, 6], [2, 6]), ([7, 5], [7]), ([8], [8]), ([9, 8], [8, 9]), ([10, 8], [8, 10]), ([11, 8], [8, 11]), ([8, 12], [8, 12]), ([13, 8], [13]), ([14], [14]), ([14], [14]), ([15, 16, 14, 14], [14, 15, 16]), ([14], [14]), ([17, 18, 17, 14], [14, 17, 18]), ([19, 14], [14, 19]), ([14, 20], [14, 20])])
def portreevelaw03_DiskCrashes.B15 : List Nat := [0, 1, 3, 7, 7, 31, 63, 127, 255, 511, 1023, 2047, 4095, 8191, 16383, 32767, 32767, 131071, 32767, 524287, 1048575, 2097151]
theorem portreevelaw03_DiskCrashes.tab15 : rtab .any (opsOf Try.f4 15) = portreevelaw03_DiskCrashes.T15 := by kernel_rfl
theorem portreevelaw03_DiskCrashes.bits15 : waitsOk portreevelaw03_DiskCrashes.T15.2 portreevelaw03_DiskCrashes.B15 = true := by kernel_rfl
def portreevelaw03_DiskCrashes.T17 : Bool × List (List Nat × List Nat) := (true, [([], []), ([0], [0]), ([1], [1]), ([2, 1, 1], [1, 2]), ([1], [1]), ([3, 4, 3, 1], [1, 3, 4]), ([1, 5], [1, 5]), ([6, 5], [6]), ([7], [7]), ([7], [7]), ([8, 9, 7, 7], [7, 8, 9]), ([7], [7]), ([10, 11, 10, 7], [7, 10, 11]), ([7, 12], [7, 12]), ([13, 12, 0, 1, 2, 3, 4, 5, 6, 7, 8, 9, 10, 11, 12, 13], [13])])
def portreevelaw03_DiskCrashes.B17 : List Nat := [0, 1, 3, 7, 3, 31, 63, 127, 255, 255, 1023, 255, 4095, 8191, 16383]
theorem portreevelaw03_DiskCrashes.tab17 : rtab .any (opsOf Try.f4 17) = portreevelaw03_DiskCrashes.T17 := by kernel_rfl
theorem portreevelaw03_DiskCrashes.bits17 : waitsOk portreevelaw03_DiskCrashes.T17.2 portreevelaw03_DiskCrashes.B17 = true := by kernel_rfl
set_option maxHeartbeats 8000000 in
set_option maxRecDepth 100000 in
theorem portreevelaw03_DiskCrashes.calls (k : Nat) (P0_0_ : Nat → Prop) (A0_0 : Option Addr) (c0_0 : Nat) (l0_0 : List (List Int)) (P0_1_ : Nat → Prop) (A0_1 : Option Addr) (c0_1 : Nat) (l0_1 : List (S47)) (a1 : Int) (A2 : Option Addr) (c2 : Nat) (l2 : List Bool) (r : Bool) (w : World) (hlaw_ : Aside0 (r = true)) (hs0_0 : Kd.V (Kd.slice 5 (Kd.int .u8)) 26 w w.heap.size (fun k_ => P0_0_ k_) (.slice A0_0 l0_0.length c0_0) l0_0) (hs0_1 : Kd.V k47 47 w w.heap.size (fun k_ => P0_1_ k_) (.slice A0_1 l0_1.length c0_1) l0_1) (hr2 : Kd.C Kd.bool w A2 l2.length l2) (hc2 : l2.length ≤ c2) (h : portreevelaw03_DiskCrashes.f k l0_0 l0_1 a1 l2 = some r) :
  Calls Try.prog 4 #[.agg #[.slice A0_0 l0_0.length c0_0, .slice A0_1 l0_1.length c0_1], .int .i64 a1, .slice A2 l2.length c2] w fun e w' => e = .returned (.bool r) ∧ Below w.heap.size w w' := by
 have hu25 := Try.underlying25
 have hu47 := Try.underlying47
 have HO0_0 := Aside0.mk (show Kd.V (Kd.slice 5 (Kd.int .u8)) 26 w w.heap.size (fun k_ => ((P0_0_ k_ ∨ P0_1_ k_) ∨ w.heap.size ≤ k_)) (.slice A0_0 l0_0.length c0_0) l0_0 from Kd.V_mono hs0_0 (fun k_ hk => .inl (.inl hk)))
 have HO0_1 := Aside0.mk (show Kd.V k47 47 w w.heap.size (fun k_ => ((P0_0_ k_ ∨ P0_1_ k_) ∨ w.heap.size ≤ k_)) (.slice A0_1 l0_1.length c0_1) l0_1 from Kd.V_mono hs0_1 (fun k_ hk => .inl (.inr hk)))
 have HR2 := Aside0.mk hr2
 have HC2 := Aside0.mk hc2
 clear hr2 hc2
 have HB := Aside0.mk (Below.refl w.heap.size w)
 have H : ((portreevelaw03_shown.f k).bind fun t345 => ((portreeveref03_Small.f k l0_0 l0_1).bind fun t346 => (if t346 = true then ((portreeveref03_Right.f k l0_0 l0_1).bind fun t347 => (if t347 = true then (if a1 < 0 then (portreevelaw03_DiskCrashes.j0 k a1 l2 t345 true l0_0 l0_1) else (if a1 ≥ 64 then (portreevelaw03_DiskCrashes.j0 k a1 l2 t345 true l0_0 l0_1) else (portreevelaw03_DiskCrashes.j0 k a1 l2 t345 (decide ((l2.length : Int) > 100)) l0_0 l0_1))) else (portreevelaw03_DiskCrashes.j0 k a1 l2 t345 true l0_0 l0_1))) else (portreevelaw03_DiskCrashes.j0 k a1 l2 t345 true l0_0 l0_1)))) = some r := h
 clear h
 replace H := Option.bind_eq_some_iff.mp H
 obtain ⟨t345, A40, H⟩ := H
 replace H : ((portreeveref03_Small.f k l0_0 l0_1).bind fun t346 => (if t346 = true then ((portreeveref03_Right.f k l0_0 l0_1).bind fun t347 => (if t347 = true then (if a1 < 0 then (portreevelaw03_DiskCrashes.j0 k a1 l2 t345 true l0_0 l0_1) else (if a1 ≥ 64 then (portreevelaw03_DiskCrashes.j0 k a1 l2 t345 true l0_0 l0_1) else (portreevelaw03_DiskCrashes.j0 k a1 l2 t345 (decide ((l2.length : Int) > 100)) l0_0 l0_1))) else (portreevelaw03_DiskCrashes.j0 k a1 l2 t345 true l0_0 l0_1))) else (portreevelaw03_DiskCrashes.j0 k a1 l2 t345 true l0_0 l0_1))) = some r := H
 have A4 := Aside0.mk A40
 clear A40
 have HC5 := Aside0.mk H
 clear H
 go_enter Try.func4, Try.ntmps4
 go_upto_region 2 with (first | ((with_reducible refine gate_dst (N := 3) rfl ?_); (try (refine gate_guard (by rfl) ?_; dsimp only)); refine box_event ?hg (N := 3) ?hd (cs := #[.slice A0_0 l0_0.length c0_0, .slice A0_1 l0_1.length c0_1]) (t := 25) ?hr ?_; (case hd => rfl); (case hg => rfl); (case hr => first | (go_simp; done) | (go_simp; rfl)); intro gb344 hg w6 hbox hb; have n0_ := Aside0.mk (Kd.V_below (Kd.V_elderB (zV HO0_0.out) gb344 (Nat.le_of_eq hg.symm)) hb); have n1_ := Aside0.mk (Kd.V_below (Kd.V_elderB (zV HO0_1.out) gb344 (Nat.le_of_eq hg.symm)) hb); have n2_ := Aside0.mk (below_step (zH HB.out) hb); have n3_ := Aside0.mk (hbox); have n4_ := Aside0.mk ((by rw [hg]; exact (below_size (zH HB.out)) : w.heap.size ≤ gb344)); have n5_ := Aside0.mk ((by rw [hg]; exact (below_size (zH HB.out)) : w.heap.size ≤ gb344)); clear HO0_0; clear HO0_1; clear HB; have HO0_0 := n0_; have HO0_1 := n1_; have HB := n2_; have BK344 := n3_; have GW344 := n4_; have GE344 := n5_; clear n0_ n1_ n2_ n3_ n4_ n5_; clear hb hbox hg) | ((with_reducible refine gate_callee (f := 9) rfl ?_); refine goesL_ (some 15) rfl rfl Try.func9 (by kernel_rfl) rfl #[] rfl (by (try simp only [List.map_toArray, List.map_cons, List.map_nil]); first | done | rfl | (simp only [List.length_drop, List.length_take]; rfl)) ?_; (with_reducible refine (portreevelaw03_shown.calls k  t345 _ A4.out).mono ?_); rintro e w7 ⟨rfl, hb⟩; refine ⟨_, rfl, ?_⟩; have n0_ := Aside0.mk (Kd.V_below (zV HO0_0.out) hb); have n1_ := Aside0.mk (Kd.V_below (zV HO0_1.out) hb); have n2_ := Aside0.mk (blk_below (g := gb344) (o := .cells #[.slice A0_0 l0_0.length c0_0, .slice A0_1 l0_1.length c0_1] 25 (0, 0)) (zB BK344.out) hb); have n3_ := Aside0.mk (below_step (by repeat (first | (with_reducible first | exact HB.out | apply pA | apply pN | apply pD | refine pS ?_ GE344.out) | exact HB.out)) hb); clear HO0_0; clear HO0_1; clear BK344; clear HB; have HO0_0 := n0_; have HO0_1 := n1_; have BK344 := n2_; have HB := n3_; clear n0_ n1_ n2_ n3_; (try clear hb); (try clear hb2); (try clear hk); (try clear hi)))
 (try simp only [Act.put, sT, s0, s1])
 go_cut [36] (fun v36 wc => ∃ (kq : Nat) (x36_4 : Bool), v36 = .bool x36_4 ∧ Aside0 (portreevelaw03_DiskCrashes.j0 kq a1 l2 t345 x36_4 l0_0 l0_1 = some r) ∧ Aside0 (kq ≤ k) ∧ Aside0 (Kd.V (Kd.slice 5 (Kd.int .u8)) 26 wc w.heap.size (fun k_ => ((P0_0_ k_ ∨ P0_1_ k_) ∨ w.heap.size ≤ k_) ∧ k_ ≠ gb344) (.slice A0_0 l0_0.length c0_0) l0_0) ∧ Aside0 (Kd.V k47 47 wc w.heap.size (fun k_ => ((P0_0_ k_ ∨ P0_1_ k_) ∨ w.heap.size ≤ k_) ∧ k_ ≠ gb344) (.slice A0_1 l0_1.length c0_1) l0_1) ∧ Aside0 (wc.heap[gb344]? = some (.cells #[(.slice A0_0 l0_0.length c0_0), (.slice A0_1 l0_1.length c0_1)] 25 (0, 0))) ∧ Aside0 (Below w.heap.size w wc))
 case first =>
  have H := HC5.out
  clear HC5
  replace H := Option.bind_eq_some_iff.mp H
  obtain ⟨t346, A80, H⟩ := H
  replace H : (if t346 = true then ((portreeveref03_Right.f k l0_0 l0_1).bind fun t347 => (if t347 = true then (if a1 < 0 then (portreevelaw03_DiskCrashes.j0 k a1 l2 t345 true l0_0 l0_1) else (if a1 ≥ 64 then (portreevelaw03_DiskCrashes.j0 k a1 l2 t345 true l0_0 l0_1) else (portreevelaw03_DiskCrashes.j0 k a1 l2 t345 (decide ((l2.length : Int) > 100)) l0_0 l0_1))) else (portreevelaw03_DiskCrashes.j0 k a1 l2 t345 true l0_0 l0_1))) else (portreevelaw03_DiskCrashes.j0 k a1 l2 t345 true l0_0 l0_1)) = some r := H
  have A8 := Aside0.mk A80
  clear A80
  by_cases c9 : t346 = true
  ·subst c9
   have H1 : ((portreeveref03_Right.f k l0_0 l0_1).bind fun t347 => (if t347 = true then (if a1 < 0 then (portreevelaw03_DiskCrashes.j0 k a1 l2 t345 true l0_0 l0_1) else (if a1 ≥ 64 then (portreevelaw03_DiskCrashes.j0 k a1 l2 t345 true l0_0 l0_1) else (portreevelaw03_DiskCrashes.j0 k a1 l2 t345 (decide ((l2.length : Int) > 100)) l0_0 l0_1))) else (portreevelaw03_DiskCrashes.j0 k a1 l2 t345 true l0_0 l0_1))) = some r := by rw [if_pos rfl] at H; exact H
   clear H
   have H := H1
   clear H1
   replace H := Option.bind_eq_some_iff.mp H
   obtain ⟨t347, A100, H⟩ := H
   replace H : (if t347 = true then (if a1 < 0 then (portreevelaw03_DiskCrashes.j0 k a1 l2 t345 true l0_0 l0_1) else (if a1 ≥ 64 then (portreevelaw03_DiskCrashes.j0 k a1 l2 t345 true l0_0 l0_1) else (portreevelaw03_DiskCrashes.j0 k a1 l2 t345 (decide ((l2.length : Int) > 100)) l0_0 l0_1))) else (portreevelaw03_DiskCrashes.j0 k a1 l2 t345 true l0_0 l0_1)) = some r := H
   have A10 := Aside0.mk A100
   clear A100
   by_cases c11 : t347 = true
   ·subst c11
    have H1 : (if a1 < 0 then (portreevelaw03_DiskCrashes.j0 k a1 l2 t345 true l0_0 l0_1) else (if a1 ≥ 64 then (portreevelaw03_DiskCrashes.j0 k a1 l2 t345 true l0_0 l0_1) else (portreevelaw03_DiskCrashes.j0 k a1 l2 t345 (decide ((l2.length : Int) > 100)) l0_0 l0_1))) = some r := by rw [if_pos rfl] at H; exact H
    clear H
    have H := H1
    clear H1
    by_cases c12 : a1 < 0
    ·rw [if_pos c12] at H
     have c12b0 : decide (a1 < 0) = true := decide_eq_true c12
     clear c12
     (first | rw [c12b0] | (simp only [i64_w, i32_w]; rw [c12b0]) | skip)
     have H' := Aside0.mk H
     clear H
     have hcz13_0 : w7.cell? ⟨gb344, 0, none⟩ = some (.slice A0_0 l0_0.length c0_0) := (blk_cell BK344.out 0).trans rfl
     have hcz13_1 : w7.cell? ⟨gb344, 1, none⟩ = some (.slice A0_1 l0_1.length c0_1) := (blk_cell BK344.out 1).trans rfl
     have hfz13_0 := blk_frozen BK344.out 0
     have hfz13_1 := blk_frozen BK344.out 1
     go_wp2_with (first | ((with_reducible refine gate_callee (f := 10) rfl ?_); refine goesL_ (some 17) rfl rfl Try.func10 (by kernel_rfl) rfl #[.agg #[.slice A0_0 l0_0.length c0_0, .slice A0_1 l0_1.length c0_1]] rfl (by (try simp only [List.map_toArray, List.map_cons, List.map_nil]); first | done | rfl | (simp only [List.length_drop, List.length_take]; rfl)) ?_; (with_reducible refine (portreeveref03_Small.calls k _ _ l0_0 _ _ l0_1 true _ ?side1 ?side2 ?side3 ?side4 A8.out).mono ?_); (case side1 => repeat (first | exact (Kd.V_reads' HO0_0.out).2.2 | (with_reducible refine Kd.C_alloc ?_ _) | (with_reducible refine Kd.C_drewN ?_ _) | (with_reducible refine Kd.C_drew ?_))); (case side2 => exact (Kd.V_reads' HO0_0.out).2.1); (case side3 => repeat (first | exact (Kd.V_reads' HO0_1.out).2.2 | (with_reducible refine Kd.C_alloc ?_ _) | (with_reducible refine Kd.C_drewN ?_ _) | (with_reducible refine Kd.C_drew ?_))); (case side4 => exact (Kd.V_reads' HO0_1.out).2.1); rintro e w14 ⟨rfl, hb⟩; refine ⟨_, rfl, ?_⟩; have n0_ := Aside0.mk (Kd.V_below (zV HO0_0.out) hb); have n1_ := Aside0.mk (Kd.V_below (zV HO0_1.out) hb); have n2_ := Aside0.mk (blk_below (g := gb344) (o := .cells #[.slice A0_0 l0_0.length c0_0, .slice A0_1 l0_1.length c0_1] 25 (0, 0)) (zB BK344.out) hb); have n3_ := Aside0.mk (below_step (by repeat (first | (with_reducible first | exact HB.out | apply pA | apply pN | apply pD | refine pS ?_ GE344.out) | exact HB.out)) hb); clear HO0_0; clear HO0_1; clear BK344; clear HB; have HO0_0 := n0_; have HO0_1 := n1_; have BK344 := n2_; have HB := n3_; clear n0_ n1_ n2_ n3_; (try clear hb); (try clear hb2); (try clear hk); (try clear hi); have hcz15_0 : w14.cell? ⟨gb344, 0, none⟩ = some (.slice A0_0 l0_0.length c0_0) := (blk_cell BK344.out 0).trans rfl; have hcz15_1 : w14.cell? ⟨gb344, 1, none⟩ = some (.slice A0_1 l0_1.length c0_1) := (blk_cell BK344.out 1).trans rfl; have hfz15_0 := blk_frozen BK344.out 0; have hfz15_1 := blk_frozen BK344.out 1) | (go_at_call 11; (with_reducible refine (portreeveref03_Right.calls k _ _ l0_0 _ _ l0_1 true _ ?side1 ?side2 ?side3 ?side4 A10.out).mono ?_); (case side1 => repeat (first | exact (Kd.V_reads' HO0_0.out).2.2 | (with_reducible refine Kd.C_alloc ?_ _) | (with_reducible refine Kd.C_drewN ?_ _) | (with_reducible refine Kd.C_drew ?_))); (case side2 => exact (Kd.V_reads' HO0_0.out).2.1); (case side3 => repeat (first | exact (Kd.V_reads' HO0_1.out).2.2 | (with_reducible refine Kd.C_alloc ?_ _) | (with_reducible refine Kd.C_drewN ?_ _) | (with_reducible refine Kd.C_drew ?_))); (case side4 => exact (Kd.V_reads' HO0_1.out).2.1); rintro e w16 ⟨rfl, hb⟩; have n0_ := Aside0.mk (Kd.V_below (zV HO0_0.out) hb); have n1_ := Aside0.mk (Kd.V_below (zV HO0_1.out) hb); have n2_ := Aside0.mk (blk_below (g := gb344) (o := .cells #[.slice A0_0 l0_0.length c0_0, .slice A0_1 l0_1.length c0_1] 25 (0, 0)) (zB BK344.out) hb); have n3_ := Aside0.mk (below_step (by repeat (first | (with_reducible first | exact HB.out | apply pA | apply pN | apply pD | refine pS ?_ GE344.out) | exact HB.out)) hb); clear HO0_0; clear HO0_1; clear BK344; clear HB; have HO0_0 := n0_; have HO0_1 := n1_; have BK344 := n2_; have HB := n3_; clear n0_ n1_ n2_ n3_; (try clear hb); (try clear hb2); (try clear hk); (try clear hi)))
     go_meet
     case rel => exact ⟨_, (true), (by first | rfl | (simp; done) | (simp [*]; done)), H', ⟨by first | omega | exact Nat.le_refl _⟩, ⟨zV HO0_0.out⟩, ⟨zV HO0_1.out⟩, ⟨zB BK344.out⟩, ⟨by repeat (first | (with_reducible first | exact HB.out | apply pA | apply pN | apply pD | refine pS ?_ GE344.out) | exact HB.out)⟩⟩
    ·rw [if_neg c12] at H
     have c12b0 : decide (a1 < 0) = false := decide_eq_false c12
     clear c12
     (first | rw [c12b0] | (simp only [i64_w, i32_w]; rw [c12b0]) | skip)
     by_cases c17 : a1 ≥ 64
     ·rw [if_pos c17] at H
      have c17b0 : decide (64 ≤ a1) = true := decide_eq_true c17
      clear c17
      have H' := Aside0.mk H
      clear H
      have hcz18_0 : w7.cell? ⟨gb344, 0, none⟩ = some (.slice A0_0 l0_0.length c0_0) := (blk_cell BK344.out 0).trans rfl
      have hcz18_1 : w7.cell? ⟨gb344, 1, none⟩ = some (.slice A0_1 l0_1.length c0_1) := (blk_cell BK344.out 1).trans rfl
      have hfz18_0 := blk_frozen BK344.out 0
      have hfz18_1 := blk_frozen BK344.out 1
      go_wp2_with (first | ((with_reducible refine gate_callee (f := 10) rfl ?_); refine goesL_ (some 17) rfl rfl Try.func10 (by kernel_rfl) rfl #[.agg #[.slice A0_0 l0_0.length c0_0, .slice A0_1 l0_1.length c0_1]] rfl (by (try simp only [List.map_toArray, List.map_cons, List.map_nil]); first | done | rfl | (simp only [List.length_drop, List.length_take]; rfl)) ?_; (with_reducible refine (portreeveref03_Small.calls k _ _ l0_0 _ _ l0_1 true _ ?side1 ?side2 ?side3 ?side4 A8.out).mono ?_); (case side1 => repeat (first | exact (Kd.V_reads' HO0_0.out).2.2 | (with_reducible refine Kd.C_alloc ?_ _) | (with_reducible refine Kd.C_drewN ?_ _) | (with_reducible refine Kd.C_drew ?_))); (case side2 => exact (Kd.V_reads' HO0_0.out).2.1); (case side3 => repeat (first | exact (Kd.V_reads' HO0_1.out).2.2 | (with_reducible refine Kd.C_alloc ?_ _) | (with_reducible refine Kd.C_drewN ?_ _) | (with_reducible refine Kd.C_drew ?_))); (case side4 => exact (Kd.V_reads' HO0_1.out).2.1); rintro e w19 ⟨rfl, hb⟩; refine ⟨_, rfl, ?_⟩; have n0_ := Aside0.mk (Kd.V_below (zV HO0_0.out) hb); have n1_ := Aside0.mk (Kd.V_below (zV HO0_1.out) hb); have n2_ := Aside0.mk (blk_below (g := gb344) (o := .cells #[.slice A0_0 l0_0.length c0_0, .slice A0_1 l0_1.length c0_1] 25 (0, 0)) (zB BK344.out) hb); have n3_ := Aside0.mk (below_step (by repeat (first | (with_reducible first | exact HB.out | apply pA | apply pN | apply pD | refine pS ?_ GE344.out) | exact HB.out)) hb); clear HO0_0; clear HO0_1; clear BK344; clear HB; have HO0_0 := n0_; have HO0_1 := n1_; have BK344 := n2_; have HB := n3_; clear n0_ n1_ n2_ n3_; (try clear hb); (try clear hb2); (try clear hk); (try clear hi); have hcz20_0 : w19.cell? ⟨gb344, 0, none⟩ = some (.slice A0_0 l0_0.length c0_0) := (blk_cell BK344.out 0).trans rfl; have hcz20_1 : w19.cell? ⟨gb344, 1, none⟩ = some (.slice A0_1 l0_1.length c0_1) := (blk_cell BK344.out 1).trans rfl; have hfz20_0 := blk_frozen BK344.out 0; have hfz20_1 := blk_frozen BK344.out 1) | (go_at_call 11; (with_reducible refine (portreeveref03_Right.calls k _ _ l0_0 _ _ l0_1 true _ ?side1 ?side2 ?side3 ?side4 A10.out).mono ?_); (case side1 => repeat (first | exact (Kd.V_reads' HO0_0.out).2.2 | (with_reducible refine Kd.C_alloc ?_ _) | (with_reducible refine Kd.C_drewN ?_ _) | (with_reducible refine Kd.C_drew ?_))); (case side2 => exact (Kd.V_reads' HO0_0.out).2.1); (case side3 => repeat (first | exact (Kd.V_reads' HO0_1.out).2.2 | (with_reducible refine Kd.C_alloc ?_ _) | (with_reducible refine Kd.C_drewN ?_ _) | (with_reducible refine Kd.C_drew ?_))); (case side4 => exact (Kd.V_reads' HO0_1.out).2.1); rintro e w21 ⟨rfl, hb⟩; have n0_ := Aside0.mk (Kd.V_below (zV HO0_0.out) hb); have n1_ := Aside0.mk (Kd.V_below (zV HO0_1.out) hb); have n2_ := Aside0.mk (blk_below (g := gb344) (o := .cells #[.slice A0_0 l0_0.length c0_0, .slice A0_1 l0_1.length c0_1] 25 (0, 0)) (zB BK344.out) hb); have n3_ := Aside0.mk (below_step (by repeat (first | (with_reducible first | exact HB.out | apply pA | apply pN | apply pD | refine pS ?_ GE344.out) | exact HB.out)) hb); clear HO0_0; clear HO0_1; clear BK344; clear HB; have HO0_0 := n0_; have HO0_1 := n1_; have BK344 := n2_; have HB := n3_; clear n0_ n1_ n2_ n3_; (try clear hb); (try clear hb2); (try clear hk); (try clear hi)))
      go_meet
      case rel => exact ⟨_, (true), (by first | rfl | (simp; done) | (simp [*]; done)), H', ⟨by first | omega | exact Nat.le_refl _⟩, ⟨zV HO0_0.out⟩, ⟨zV HO0_1.out⟩, ⟨zB BK344.out⟩, ⟨by repeat (first | (with_reducible first | exact HB.out | apply pA | apply pN | apply pD | refine pS ?_ GE344.out) | exact HB.out)⟩⟩
     ·rw [if_neg c17] at H
      have c17b0 : decide (64 ≤ a1) = false := decide_eq_false c17
      clear c17
      have H' := Aside0.mk H
      clear H
      have hcz22_0 : w7.cell? ⟨gb344, 0, none⟩ = some (.slice A0_0 l0_0.length c0_0) := (blk_cell BK344.out 0).trans rfl
      have hcz22_1 : w7.cell? ⟨gb344, 1, none⟩ = some (.slice A0_1 l0_1.length c0_1) := (blk_cell BK344.out 1).trans rfl
      have hfz22_0 := blk_frozen BK344.out 0
      have hfz22_1 := blk_frozen BK344.out 1
      go_wp2_with (first | ((with_reducible refine gate_callee (f := 10) rfl ?_); refine goesL_ (some 17) rfl rfl Try.func10 (by kernel_rfl) rfl #[.agg #[.slice A0_0 l0_0.length c0_0, .slice A0_1 l0_1.length c0_1]] rfl (by (try simp only [List.map_toArray, List.map_cons, List.map_nil]); first | done | rfl | (simp only [List.length_drop, List.length_take]; rfl)) ?_; (with_reducible refine (portreeveref03_Small.calls k _ _ l0_0 _ _ l0_1 true _ ?side1 ?side2 ?side3 ?side4 A8.out).mono ?_); (case side1 => repeat (first | exact (Kd.V_reads' HO0_0.out).2.2 | (with_reducible refine Kd.C_alloc ?_ _) | (with_reducible refine Kd.C_drewN ?_ _) | (with_reducible refine Kd.C_drew ?_))); (case side2 => exact (Kd.V_reads' HO0_0.out).2.1); (case side3 => repeat (first | exact (Kd.V_reads' HO0_1.out).2.2 | (with_reducible refine Kd.C_alloc ?_ _) | (with_reducible refine Kd.C_drewN ?_ _) | (with_reducible refine Kd.C_drew ?_))); (case side4 => exact (Kd.V_reads' HO0_1.out).2.1); rintro e w23 ⟨rfl, hb⟩; refine ⟨_, rfl, ?_⟩; have n0_ := Aside0.mk (Kd.V_below (zV HO0_0.out) hb); have n1_ := Aside0.mk (Kd.V_below (zV HO0_1.out) hb); have n2_ := Aside0.mk (blk_below (g := gb344) (o := .cells #[.slice A0_0 l0_0.length c0_0, .slice A0_1 l0_1.length c0_1] 25 (0, 0)) (zB BK344.out) hb); have n3_ := Aside0.mk (below_step (by repeat (first | (with_reducible first | exact HB.out | apply pA | apply pN | apply pD | refine pS ?_ GE344.out) | exact HB.out)) hb); clear HO0_0; clear HO0_1; clear BK344; clear HB; have HO0_0 := n0_; have HO0_1 := n1_; have BK344 := n2_; have HB := n3_; clear n0_ n1_ n2_ n3_; (try clear hb); (try clear hb2); (try clear hk); (try clear hi); have hcz24_0 : w23.cell? ⟨gb344, 0, none⟩ = some (.slice A0_0 l0_0.length c0_0) := (blk_cell BK344.out 0).trans rfl; have hcz24_1 : w23.cell? ⟨gb344, 1, none⟩ = some (.slice A0_1 l0_1.length c0_1) := (blk_cell BK344.out 1).trans rfl; have hfz24_0 := blk_frozen BK344.out 0; have hfz24_1 := blk_frozen BK344.out 1) | (go_at_call 11; (with_reducible refine (portreeveref03_Right.calls k _ _ l0_0 _ _ l0_1 true _ ?side1 ?side2 ?side3 ?side4 A10.out).mono ?_); (case side1 => repeat (first | exact (Kd.V_reads' HO0_0.out).2.2 | (with_reducible refine Kd.C_alloc ?_ _) | (with_reducible refine Kd.C_drewN ?_ _) | (with_reducible refine Kd.C_drew ?_))); (case side2 => exact (Kd.V_reads' HO0_0.out).2.1); (case side3 => repeat (first | exact (Kd.V_reads' HO0_1.out).2.2 | (with_reducible refine Kd.C_alloc ?_ _) | (with_reducible refine Kd.C_drewN ?_ _) | (with_reducible refine Kd.C_drew ?_))); (case side4 => exact (Kd.V_reads' HO0_1.out).2.1); rintro e w25 ⟨rfl, hb⟩; have n0_ := Aside0.mk (Kd.V_below (zV HO0_0.out) hb); have n1_ := Aside0.mk (Kd.V_below (zV HO0_1.out) hb); have n2_ := Aside0.mk (blk_below (g := gb344) (o := .cells #[.slice A0_0 l0_0.length c0_0, .slice A0_1 l0_1.length c0_1] 25 (0, 0)) (zB BK344.out) hb); have n3_ := Aside0.mk (below_step (by repeat (first | (with_reducible first | exact HB.out | apply pA | apply pN | apply pD | refine pS ?_ GE344.out) | exact HB.out)) hb); clear HO0_0; clear HO0_1; clear BK344; clear HB; have HO0_0 := n0_; have HO0_1 := n1_; have BK344 := n2_; have HB := n3_; clear n0_ n1_ n2_ n3_; (try clear hb); (try clear hb2); (try clear hk); (try clear hi)))
      go_meet
      case rel => exact ⟨_, (decide ((l2.length : Int) > 100)), (by first | rfl | (simp; done) | (simp [*]; done)), H', ⟨by first | omega | exact Nat.le_refl _⟩, ⟨zV HO0_0.out⟩, ⟨zV HO0_1.out⟩, ⟨zB BK344.out⟩, ⟨by repeat (first | (with_reducible first | exact HB.out | apply pA | apply pN | apply pD | refine pS ?_ GE344.out) | exact HB.out)⟩⟩
   ·replace c11 := Bool.eq_false_iff.mpr c11
    subst c11
    have H1 : (portreevelaw03_DiskCrashes.j0 k a1 l2 t345 true l0_0 l0_1) = some r := by rw [if_neg (show ¬ (false = true) by decide)] at H; exact H
    clear H
    have H := H1
    clear H1
    have H' := Aside0.mk H
    clear H
    have hcz26_0 : w7.cell? ⟨gb344, 0, none⟩ = some (.slice A0_0 l0_0.length c0_0) := (blk_cell BK344.out 0).trans rfl
    have hcz26_1 : w7.cell? ⟨gb344, 1, none⟩ = some (.slice A0_1 l0_1.length c0_1) := (blk_cell BK344.out 1).trans rfl
    have hfz26_0 := blk_frozen BK344.out 0
    have hfz26_1 := blk_frozen BK344.out 1
    go_wp2_with (first | ((with_reducible refine gate_callee (f := 10) rfl ?_); refine goesL_ (some 17) rfl rfl Try.func10 (by kernel_rfl) rfl #[.agg #[.slice A0_0 l0_0.length c0_0, .slice A0_1 l0_1.length c0_1]] rfl (by (try simp only [List.map_toArray, List.map_cons, List.map_nil]); first | done | rfl | (simp only [List.length_drop, List.length_take]; rfl)) ?_; (with_reducible refine (portreeveref03_Small.calls k _ _ l0_0 _ _ l0_1 true _ ?side1 ?side2 ?side3 ?side4 A8.out).mono ?_); (case side1 => repeat (first | exact (Kd.V_reads' HO0_0.out).2.2 | (with_reducible refine Kd.C_alloc ?_ _) | (with_reducible refine Kd.C_drewN ?_ _) | (with_reducible refine Kd.C_drew ?_))); (case side2 => exact (Kd.V_reads' HO0_0.out).2.1); (case side3 => repeat (first | exact (Kd.V_reads' HO0_1.out).2.2 | (with_reducible refine Kd.C_alloc ?_ _) | (with_reducible refine Kd.C_drewN ?_ _) | (with_reducible refine Kd.C_drew ?_))); (case side4 => exact (Kd.V_reads' HO0_1.out).2.1); rintro e w27 ⟨rfl, hb⟩; refine ⟨_, rfl, ?_⟩; have n0_ := Aside0.mk (Kd.V_below (zV HO0_0.out) hb); have n1_ := Aside0.mk (Kd.V_below (zV HO0_1.out) hb); have n2_ := Aside0.mk (blk_below (g := gb344) (o := .cells #[.slice A0_0 l0_0.length c0_0, .slice A0_1 l0_1.length c0_1] 25 (0, 0)) (zB BK344.out) hb); have n3_ := Aside0.mk (below_step (by repeat (first | (with_reducible first | exact HB.out | apply pA | apply pN | apply pD | refine pS ?_ GE344.out) | exact HB.out)) hb); clear HO0_0; clear HO0_1; clear BK344; clear HB; have HO0_0 := n0_; have HO0_1 := n1_; have BK344 := n2_; have HB := n3_; clear n0_ n1_ n2_ n3_; (try clear hb); (try clear hb2); (try clear hk); (try clear hi); have hcz28_0 : w27.cell? ⟨gb344, 0, none⟩ = some (.slice A0_0 l0_0.length c0_0) := (blk_cell BK344.out 0).trans rfl; have hcz28_1 : w27.cell? ⟨gb344, 1, none⟩ = some (.slice A0_1 l0_1.length c0_1) := (blk_cell BK344.out 1).trans rfl; have hfz28_0 := blk_frozen BK344.out 0; have hfz28_1 := blk_frozen BK344.out 1) | (go_at_call 11; (with_reducible refine (portreeveref03_Right.calls k _ _ l0_0 _ _ l0_1 false _ ?side1 ?side2 ?side3 ?side4 A10.out).mono ?_); (case side1 => repeat (first | exact (Kd.V_reads' HO0_0.out).2.2 | (with_reducible refine Kd.C_alloc ?_ _) | (with_reducible refine Kd.C_drewN ?_ _) | (with_reducible refine Kd.C_drew ?_))); (case side2 => exact (Kd.V_reads' HO0_0.out).2.1); (case side3 => repeat (first | exact (Kd.V_reads' HO0_1.out).2.2 | (with_reducible refine Kd.C_alloc ?_ _) | (with_reducible refine Kd.C_drewN ?_ _) | (with_reducible refine Kd.C_drew ?_))); (case side4 => exact (Kd.V_reads' HO0_1.out).2.1); rintro e w29 ⟨rfl, hb⟩; have n0_ := Aside0.mk (Kd.V_below (zV HO0_0.out) hb); have n1_ := Aside0.mk (Kd.V_below (zV HO0_1.out) hb); have n2_ := Aside0.mk (blk_below (g := gb344) (o := .cells #[.slice A0_0 l0_0.length c0_0, .slice A0_1 l0_1.length c0_1] 25 (0, 0)) (zB BK344.out) hb); have n3_ := Aside0.mk (below_step (by repeat (first | (with_reducible first | exact HB.out | apply pA | apply pN | apply pD | refine pS ?_ GE344.out) | exact HB.out)) hb); clear HO0_0; clear HO0_1; clear BK344; clear HB; have HO0_0 := n0_; have HO0_1 := n1_; have BK344 := n2_; have HB := n3_; clear n0_ n1_ n2_ n3_; (try clear hb); (try clear hb2); (try clear hk); (try clear hi)))
    go_meet
    case rel => exact ⟨_, (true), (by first | rfl | (simp; done) | (simp [*]; done)), H', ⟨by first | omega | exact Nat.le_refl _⟩, ⟨zV HO0_0.out⟩, ⟨zV HO0_1.out⟩, ⟨zB BK344.out⟩, ⟨by repeat (first | (with_reducible first | exact HB.out | apply pA | apply pN | apply pD | refine pS ?_ GE344.out) | exact HB.out)⟩⟩
  ·replace c9 := Bool.eq_false_iff.mpr c9
   subst c9
   have H1 : (portreevelaw03_DiskCrashes.j0 k a1 l2 t345 true l0_0 l0_1) = some r := by rw [if_neg (show ¬ (false = true) by decide)] at H; exact H
   clear H
   have H := H1
   clear H1
   have H' := Aside0.mk H
   clear H
   have hcz30_0 : w7.cell? ⟨gb344, 0, none⟩ = some (.slice A0_0 l0_0.length c0_0) := (blk_cell BK344.out 0).trans rfl
   have hcz30_1 : w7.cell? ⟨gb344, 1, none⟩ = some (.slice A0_1 l0_1.length c0_1) := (blk_cell BK344.out 1).trans rfl
   have hfz30_0 := blk_frozen BK344.out 0
   have hfz30_1 := blk_frozen BK344.out 1
   go_wp2_with (first | ((with_reducible refine gate_callee (f := 10) rfl ?_); refine goesL_ (some 17) rfl rfl Try.func10 (by kernel_rfl) rfl #[.agg #[.slice A0_0 l0_0.length c0_0, .slice A0_1 l0_1.length c0_1]] rfl (by (try simp only [List.map_toArray, List.map_cons, List.map_nil]); first | done | rfl | (simp only [List.length_drop, List.length_take]; rfl)) ?_; (with_reducible refine (portreeveref03_Small.calls k _ _ l0_0 _ _ l0_1 false _ ?side1 ?side2 ?side3 ?side4 A8.out).mono ?_); (case side1 => repeat (first | exact (Kd.V_reads' HO0_0.out).2.2 | (with_reducible refine Kd.C_alloc ?_ _) | (with_reducible refine Kd.C_drewN ?_ _) | (with_reducible refine Kd.C_drew ?_))); (case side2 => exact (Kd.V_reads' HO0_0.out).2.1); (case side3 => repeat (first | exact (Kd.V_reads' HO0_1.out).2.2 | (with_reducible refine Kd.C_alloc ?_ _) | (with_reducible refine Kd.C_drewN ?_ _) | (with_reducible refine Kd.C_drew ?_))); (case side4 => exact (Kd.V_reads' HO0_1.out).2.1); rintro e w31 ⟨rfl, hb⟩; refine ⟨_, rfl, ?_⟩; have n0_ := Aside0.mk (Kd.V_below (zV HO0_0.out) hb); have n1_ := Aside0.mk (Kd.V_below (zV HO0_1.out) hb); have n2_ := Aside0.mk (blk_below (g := gb344) (o := .cells #[.slice A0_0 l0_0.length c0_0, .slice A0_1 l0_1.length c0_1] 25 (0, 0)) (zB BK344.out) hb); have n3_ := Aside0.mk (below_step (by repeat (first | (with_reducible first | exact HB.out | apply pA | apply pN | apply pD | refine pS ?_ GE344.out) | exact HB.out)) hb); clear HO0_0; clear HO0_1; clear BK344; clear HB; have HO0_0 := n0_; have HO0_1 := n1_; have BK344 := n2_; have HB := n3_; clear n0_ n1_ n2_ n3_; (try clear hb); (try clear hb2); (try clear hk); (try clear hi)))
   go_meet
   case rel => exact ⟨_, (true), (by first | rfl | (simp; done) | (simp [*]; done)), H', ⟨by first | omega | exact Nat.le_refl _⟩, ⟨zV HO0_0.out⟩, ⟨zV HO0_1.out⟩, ⟨zB BK344.out⟩, ⟨by repeat (first | (with_reducible first | exact HB.out | apply pA | apply pN | apply pD | refine pS ?_ GE344.out) | exact HB.out)⟩⟩
 case rest =>
  clear HC5
  try clear c1
  try clear c2
  try clear p2
  try clear c4
  try clear c9
  try clear c10
  try clear c11
  try clear c12
  try clear c12b0
  try clear c17
  try clear c17b0
  try clear hcz13_0
  try clear hcz13_1
  try clear hcz15_0
  try clear hcz15_1
  try clear hcz18_0
  try clear hcz18_1
  try clear hcz20_0
  try clear hcz20_1
  try clear hcz22_0
  try clear hcz22_1
  try clear hcz24_0
  try clear hcz24_1
  try clear hcz26_0
  try clear hcz26_1
  try clear hcz28_0
  try clear hcz28_1
  try clear hcz30_0
  try clear hcz30_1
  try clear hfz13_0
  try clear hfz13_1
  try clear hfz15_0
  try clear hfz15_1
  try clear hfz18_0
  try clear hfz18_1
  try clear hfz20_0
  try clear hfz20_1
  try clear hfz22_0
  try clear hfz22_1
  try clear hfz24_0
  try clear hfz24_1
  try clear hfz26_0
  try clear hfz26_1
  try clear hfz28_0
  try clear hfz28_1
  try clear hfz30_0
  try clear hfz30_1
  obtain ⟨kq, x36_4, rfl, HA, HJ4, HO_345000, HO_345001, BK344, HB⟩ := hcut
  cases kq with
  | zero => exact absurd HA.out (by simp [portreevelaw03_DiskCrashes.j0])
  | succ kj4 =>
   have H := HA.out
   clear HA
   simp only [portreevelaw03_DiskCrashes.j0] at H
   by_cases c32 : x36_4 = true
   ·subst c32
    have H1 : (some t345) = some r := by rw [if_pos rfl] at H; exact H
    clear H
    have H := H1
    clear H1
    clear hlaw_
    obtain rfl := Option.some.inj H
    go_wp2
    go_ret
    exact ⟨by first | rfl | (simp [errW_none, errW_some] <;> rfl) | (simp [*, errW_none, errW_some] <;> rfl), by repeat (first | (with_reducible first | exact HB.out | apply pA | apply pN | apply pD | refine pS ?_ GE344.out) | exact HB.out)⟩
   ·replace c32 := Bool.eq_false_iff.mpr c32
    subst c32
    have H1 : ((disk_Crash.f kj4 l0_0 l0_1 l2).bind fun bt348 => ((disk_Read.f kj4 bt348.1 bt348.2 a1).bind fun bt355 => (if 0 ≤ a1 then (if a1 < (l0_0.length : Int) then (if 0 ≤ (l0_1.length : Int) then (if ((l0_1.length : Int) : Int).toNat ≤ 281474976710656 then (portreevelaw03_DiskCrashes.l0 kj4 a1 l2 t345 bt355.1 bt355.2 (rd_L2 l0_0 a1) (List.replicate ((l0_1.length : Int) : Int).toNat false) 0 l0_0 l0_1 bt348.1 bt348.2) else (none)) else (none)) else (none)) else (none)))) = some r := by rw [if_neg (show ¬ (false = true) by decide)] at H; exact H
    clear H
    have H := H1
    clear H1
    replace H := Option.bind_eq_some_iff.mp H
    obtain ⟨⟨t348, t351⟩, A330, H⟩ := H
    replace H : ((disk_Read.f kj4 t348 t351 a1).bind fun bt355 => (if 0 ≤ a1 then (if a1 < (l0_0.length : Int) then (if 0 ≤ (l0_1.length : Int) then (if ((l0_1.length : Int) : Int).toNat ≤ 281474976710656 then (portreevelaw03_DiskCrashes.l0 kj4 a1 l2 t345 bt355.1 bt355.2 (rd_L2 l0_0 a1) (List.replicate ((l0_1.length : Int) : Int).toNat false) 0 l0_0 l0_1 t348 t351) else (none)) else (none)) else (none)) else (none))) = some r := H
    have A33 := Aside0.mk A330
    clear A330
    replace H := Option.bind_eq_some_iff.mp H
    obtain ⟨⟨t355, t358⟩, A340, H⟩ := H
    replace H : (if 0 ≤ a1 then (if a1 < (l0_0.length : Int) then (if 0 ≤ (l0_1.length : Int) then (if ((l0_1.length : Int) : Int).toNat ≤ 281474976710656 then (portreevelaw03_DiskCrashes.l0 kj4 a1 l2 t345 t355 t358 (rd_L2 l0_0 a1) (List.replicate ((l0_1.length : Int) : Int).toNat false) 0 l0_0 l0_1 t348 t351) else (none)) else (none)) else (none)) else (none)) = some r := H
    have A34 := Aside0.mk A340
    clear A340
    by_cases c35 : 0 ≤ a1
    ·rw [if_pos c35] at H
     have c35b0 : decide (0 ≤ a1) = true := decide_eq_true c35
     clear c35
     by_cases c36 : a1 < (l0_0.length : Int)
     ·rw [if_pos c36] at H
      have c36b0 : decide (a1 < (l0_0.length : Int)) = true := decide_eq_true c36
      clear c36
      by_cases c37 : 0 ≤ (l0_1.length : Int)
      ·rw [if_pos c37] at H
       have c37b0 := eq_true c37
       have c37b1 : decide (0 ≤ (l0_1.length : Int)) = true := decide_eq_true c37
       clear c37
       by_cases c38 : ((l0_1.length : Int) : Int).toNat ≤ 281474976710656
       ·rw [if_pos c38] at H
        have c38b0 := eq_true c38
        have c38b1 : decide (((l0_1.length : Int) : Int).toNat ≤ 281474976710656) = true := decide_eq_true c38
        clear c38
        obtain ⟨y360, hy360⟩ : ∃ y_ : List Bool, y_ = (List.replicate ((l0_1.length : Int) : Int).toNat false) := ⟨_, rfl⟩
        replace H : (portreevelaw03_DiskCrashes.l0 kj4 a1 l2 t345 t355 t358 (rd_L2 l0_0 a1) y360 0 l0_0 l0_1 t348 t351) = some r := by first | (rw [hy360]; with_reducible exact H) | (have H2_ := (Option.bind_some _ _).symm.trans H; rw [hy360]; with_reducible exact H2_) | (have H2_ := (Option.bind_some _ _).symm.trans H; with_reducible exact H2_) | with_reducible exact H | (rw [hy360]; exact H) | exact H
        have Ny360 := Aside0.mk hy360
        clear hy360
        have H' := Aside0.mk H
        clear H
        have hcz39_0 : wc.cell? ⟨gb344, 0, none⟩ = some (.slice A0_0 l0_0.length c0_0) := (blk_cell BK344.out 0).trans rfl
        have hcz39_1 : wc.cell? ⟨gb344, 1, none⟩ = some (.slice A0_1 l0_1.length c0_1) := (blk_cell BK344.out 1).trans rfl
        have hfz39_0 := blk_frozen BK344.out 0
        have hfz39_1 := blk_frozen BK344.out 1
        go_wp2_with (first | ((with_reducible refine gate_callee (f := 20) rfl ?_); refine goesL_ (some 40) rfl rfl Try.func20 (by kernel_rfl) rfl #[.agg #[.slice A0_0 l0_0.length c0_0, .slice A0_1 l0_1.length c0_1], .slice A2 l2.length c2] rfl (by (try simp only [List.map_toArray, List.map_cons, List.map_nil]); first | done | rfl | (simp only [List.length_drop, List.length_take]; rfl)) ?_; (with_reducible refine (disk_Crash.calls kj4 (fun k_ => (((P0_0_ k_ ∨ P0_1_ k_) ∨ w.heap.size ≤ k_) ∧ k_ ≠ gb344)) _ _ l0_0 (fun k_ => (((P0_0_ k_ ∨ P0_1_ k_) ∨ w.heap.size ≤ k_) ∧ k_ ≠ gb344)) _ _ l0_1 _ _ l2 t348 t351 _ ?side1 ?side2 ?side3 ?side4 A33.out).mono ?_); (case side1 => exact HO_345000.out); (case side2 => exact HO_345001.out); (case side3 => repeat (first | exact (Kd.C_below HR2.out HB.out) | (with_reducible refine Kd.C_alloc ?_ _) | (with_reducible refine Kd.C_drewN ?_ _) | (with_reducible refine Kd.C_drew ?_))); (case side4 => exact HC2.out); rintro e w40 ⟨v349, v352, rfl, ho0, ho1, hb⟩; refine ⟨_, rfl, ?_⟩; have n0_ := Aside0.mk (Kd.V_mono (Kd.V_told (Kd.V_told (Kd.V_old (zV HO_345000.out) hb) (Kd.N_base ho0)) (Kd.N_base ho1)) (fun _ h_ => h_.1)); have n1_ := Aside0.mk (Kd.V_mono (Kd.V_told (Kd.V_told (Kd.V_old (zV HO_345001.out) hb) (Kd.N_base ho0)) (Kd.N_base ho1)) (fun _ h_ => h_.1)); have n2_ := Aside0.mk (Kd.N_lower (Kd.N_mono (ok' := fun k_ => ((P0_0_ k_ ∨ P0_1_ k_) ∨ w.heap.size ≤ k_) ∧ some k_ ≠ (v352 : Value).ownBlock ∧ k_ ≠ gb344) ho0 (fun k_ hk_ => ⟨Or.elim hk_.1 (fun hs_ => Or.elim hs_ (fun hs_ => hs_.1) (fun hs_ => hs_.1)) (fun hn_ => (.inr (Nat.le_trans (below_size (by repeat (first | (with_reducible first | exact HB.out | apply pA | apply pN | apply pD | refine pS ?_ GE344.out) | exact HB.out))) hn_))), hk_.2, Or.elim hk_.1 (fun hs_ => Or.elim hs_ (fun hs_ => hs_.2) (fun hs_ => hs_.2)) (fun hn_ => (Kd.freshB (g := gb344) (o := .cells #[.slice A0_0 l0_0.length c0_0, .slice A0_1 l0_1.length c0_1] 25 (0, 0)) (zB BK344.out) k_ hn_))⟩)) (below_size (by repeat (first | (with_reducible first | exact HB.out | apply pA | apply pN | apply pD | refine pS ?_ GE344.out) | exact HB.out)))); have n3_ := Aside0.mk (Kd.N_lower (Kd.N_mono (ok' := fun k_ => ((P0_0_ k_ ∨ P0_1_ k_) ∨ w.heap.size ≤ k_) ∧ some k_ ≠ (v349 : Value).ownBlock ∧ k_ ≠ gb344) ho1 (fun k_ hk_ => ⟨Or.elim hk_.1 (fun hs_ => Or.elim hs_ (fun hs_ => hs_.1) (fun hs_ => hs_.1)) (fun hn_ => (.inr (Nat.le_trans (below_size (by repeat (first | (with_reducible first | exact HB.out | apply pA | apply pN | apply pD | refine pS ?_ GE344.out) | exact HB.out))) hn_))), hk_.2, Or.elim hk_.1 (fun hs_ => Or.elim hs_ (fun hs_ => hs_.2) (fun hs_ => hs_.2)) (fun hn_ => (Kd.freshB (g := gb344) (o := .cells #[.slice A0_0 l0_0.length c0_0, .slice A0_1 l0_1.length c0_1] 25 (0, 0)) (zB BK344.out) k_ hn_))⟩)) (below_size (by repeat (first | (with_reducible first | exact HB.out | apply pA | apply pN | apply pD | refine pS ?_ GE344.out) | exact HB.out)))); have n4_ := Aside0.mk (blk_below (g := gb344) (o := .cells #[.slice A0_0 l0_0.length c0_0, .slice A0_1 l0_1.length c0_1] 25 (0, 0)) (zB BK344.out) hb); have n5_ := Aside0.mk (below_step (by repeat (first | (with_reducible first | exact HB.out | apply pA | apply pN | apply pD | refine pS ?_ GE344.out) | exact HB.out)) hb); clear HO_345000; clear HO_345001; clear BK344; clear HB; have HO_345000 := n0_; have HO_345001 := n1_; have HO350 := n2_; have HO353 := n3_; have BK344 := n4_; have HB := n5_; clear n0_ n1_ n2_ n3_ n4_ n5_; (try clear hb); (try clear hb2); (try clear hk); (try clear hi); (try clear ho0); (try clear ho1)) | ((with_reducible refine gate_dst (N := 8) rfl ?_); (try (refine gate_guard (by rfl) ?_; dsimp only)); refine box_event ?hg (N := 8) ?hd (cs := #[.slice none 0 0, .slice none 0 0]) (t := 25) ?hr ?_; (case hd => rfl); (case hg => rfl); (case hr => first | (go_simp; done) | (go_simp; rfl)); intro gb354 hg w41 hbox hb; have n0_ := Aside0.mk (Kd.V_below (Kd.V_elderB (zV HO_345000.out) gb354 (Nat.le_of_eq hg.symm)) hb); have n1_ := Aside0.mk (Kd.V_below (Kd.V_elderB (zV HO_345001.out) gb354 (Nat.le_of_eq hg.symm)) hb); have n2_ := Aside0.mk (Kd.N_below (Kd.N_elderB (zN HO350.out) gb354 (Nat.le_of_eq hg.symm)) hb); have n3_ := Aside0.mk (Kd.N_below (Kd.N_elderB (zN HO353.out) gb354 (Nat.le_of_eq hg.symm)) hb); have n4_ := Aside0.mk (blk_below (g := gb344) (o := .cells #[.slice A0_0 l0_0.length c0_0, .slice A0_1 l0_1.length c0_1] 25 (0, 0)) (zB BK344.out) hb); have n5_ := Aside0.mk (below_step (by repeat (first | (with_reducible first | exact HB.out | apply pA | apply pN | apply pD | refine pS ?_ GE344.out) | exact HB.out)) hb); have n6_ := Aside0.mk (hbox); have n7_ := Aside0.mk ((by rw [hg]; exact (below_size (by repeat (first | (with_reducible first | exact HB.out | apply pA | apply pN | apply pD | refine pS ?_ GE344.out) | exact HB.out))) : w.heap.size ≤ gb354)); have n8_ := Aside0.mk ((by rw [hg]; exact (below_size (by repeat (first | (with_reducible first | exact HB.out | apply pA | apply pN | apply pD | refine pS ?_ GE344.out) | exact HB.out))) : w.heap.size ≤ gb354)); have n9_ := Aside0.mk ((by rw [hg]; exact Nat.ne_of_lt (blk_lt (g := gb344) (o := .cells #[.slice A0_0 l0_0.length c0_0, .slice A0_1 l0_1.length c0_1] 25 (0, 0)) (zB BK344.out)) : gb344 ≠ gb354)); have n10_ := Aside0.mk ((by rw [hg]; exact Nat.ne_of_gt (blk_lt (g := gb344) (o := .cells #[.slice A0_0 l0_0.length c0_0, .slice A0_1 l0_1.length c0_1] 25 (0, 0)) (zB BK344.out)) : gb354 ≠ gb344)); clear HO_345000; clear HO_345001; clear HO350; clear HO353; clear BK344; clear HB; have HO_345000 := n0_; have HO_345001 := n1_; have HO350 := n2_; have HO353 := n3_; have BK344 := n4_; have HB := n5_; have BK354 := n6_; have GW354 := n7_; have GE354 := n8_; have NB344_354 := n9_; have NB354_344 := n10_; clear n0_ n1_ n2_ n3_ n4_ n5_ n6_ n7_ n8_ n9_ n10_; clear hb hbox hg; obtain ⟨Ao42, co42, eo42⟩ := Kd.N_slice HO350.out; subst eo42; have hnb43 := NB354_344.out; have hnc43 := NB344_354.out; have hcz44_0 : w41.cell? ⟨gb354, 0, none⟩ = some (.slice none 0 0) := (blk_cell BK354.out 0).trans rfl; have hcz44_1 : w41.cell? ⟨gb354, 1, none⟩ = some (.slice none 0 0) := (blk_cell BK354.out 1).trans rfl; have hfz44_0 := blk_frozen BK354.out 0; have hfz44_1 := blk_frozen BK354.out 1; obtain ⟨Ao45, co45, eo45⟩ := Kd.N_slice HO353.out; subst eo45) | ((with_reducible refine gate_store (t := 25) (p := 8) rfl ?_); refine store_event (t := 25) (p := 8) (v := ?vo_w46) (w1 := ((w41.setCell ⟨gb354, 0, none⟩ (.slice Ao42 t348.length co42)).setCell ⟨gb354, 1, none⟩ (.slice Ao45 t351.length co45))) ?hg ?ho ?hn ?hr ?_; (case ho => rfl); (case hg => rfl); (case hn => rfl); (case hr => first | (go_simp; done) | (go_simp; rfl)); intro w46 hw; have n0_ : Aside0 (Kd.V (Kd.slice 5 (Kd.int .u8)) 26 w46 w.heap.size (fun k_ => ((P0_0_ k_ ∨ P0_1_ k_) ∨ w.heap.size ≤ k_) ∧ some k_ ≠ (.slice Ao42 t348.length co42 : Value).ownBlock ∧ some k_ ≠ (.slice Ao45 t351.length co45 : Value).ownBlock ∧ k_ ≠ gb344 ∧ k_ ≠ gb354) (.slice A0_0 l0_0.length c0_0) l0_0) := ⟨(by rw [hw]; exact (zV (Kd.V_mono (Kd.V_far (p := ⟨gb354, 1, none⟩) (Kd.V_far (p := ⟨gb354, 0, none⟩) (Kd.V_mono HO_345000.out (fun k_ hk => (⟨hk, hk.2⟩ : _ ∧ k_ ≠ gb354))) (fun _ hk => hk.2) (.slice Ao42 t348.length co42)) (fun _ hk => hk.2) (.slice Ao45 t351.length co45)) (fun _ hk => ⟨hk.1.1.1.1.1, ⟨hk.1.1.1.2, ⟨hk.1.1.2, ⟨hk.1.1.1.1.2, hk.1.2⟩⟩⟩⟩))))⟩; have n1_ : Aside0 (Kd.V k47 47 w46 w.heap.size (fun k_ => ((P0_0_ k_ ∨ P0_1_ k_) ∨ w.heap.size ≤ k_) ∧ some k_ ≠ (.slice Ao42 t348.length co42 : Value).ownBlock ∧ some k_ ≠ (.slice Ao45 t351.length co45 : Value).ownBlock ∧ k_ ≠ gb344 ∧ k_ ≠ gb354) (.slice A0_1 l0_1.length c0_1) l0_1) := ⟨(by rw [hw]; exact (zV (Kd.V_mono (Kd.V_far (p := ⟨gb354, 1, none⟩) (Kd.V_far (p := ⟨gb354, 0, none⟩) (Kd.V_mono HO_345001.out (fun k_ hk => (⟨hk, hk.2⟩ : _ ∧ k_ ≠ gb354))) (fun _ hk => hk.2) (.slice Ao42 t348.length co42)) (fun _ hk => hk.2) (.slice Ao45 t351.length co45)) (fun _ hk => ⟨hk.1.1.1.1.1, ⟨hk.1.1.1.2, ⟨hk.1.1.2, ⟨hk.1.1.1.1.2, hk.1.2⟩⟩⟩⟩))))⟩; have n2_ : Aside0 (Kd.N (Kd.slice 5 (Kd.int .u8)) 26 w46 w.heap.size (fun k_ => ((P0_0_ k_ ∨ P0_1_ k_) ∨ w.heap.size ≤ k_) ∧ some k_ ≠ (.slice Ao45 t351.length co45 : Value).ownBlock ∧ k_ ≠ gb344 ∧ k_ ≠ gb354) (.slice Ao42 t348.length co42) t348) := ⟨(by rw [hw]; exact (zN (Kd.N_mono (Kd.N_far (p := ⟨gb354, 1, none⟩) (Kd.N_far (p := ⟨gb354, 0, none⟩) (Kd.N_mono HO350.out (fun k_ hk => (⟨hk, hk.2⟩ : _ ∧ k_ ≠ gb354))) (fun _ hk => hk.2) (.slice Ao42 t348.length co42)) (fun _ hk => hk.2) (.slice Ao45 t351.length co45)) (fun _ hk => ⟨hk.1.1.1, ⟨hk.1.1.2.1, ⟨hk.1.1.2.2, hk.1.2⟩⟩⟩))))⟩; have n3_ : Aside0 (Kd.N k47 47 w46 w.heap.size (fun k_ => ((P0_0_ k_ ∨ P0_1_ k_) ∨ w.heap.size ≤ k_) ∧ some k_ ≠ (.slice Ao42 t348.length co42 : Value).ownBlock ∧ k_ ≠ gb344 ∧ k_ ≠ gb354) (.slice Ao45 t351.length co45) t351) := ⟨(by rw [hw]; exact (zN (Kd.N_mono (Kd.N_far (p := ⟨gb354, 1, none⟩) (Kd.N_far (p := ⟨gb354, 0, none⟩) (Kd.N_mono HO353.out (fun k_ hk => (⟨hk, hk.2⟩ : _ ∧ k_ ≠ gb354))) (fun _ hk => hk.2) (.slice Ao42 t348.length co42)) (fun _ hk => hk.2) (.slice Ao45 t351.length co45)) (fun _ hk => ⟨hk.1.1.1, ⟨hk.1.1.2.1, ⟨hk.1.1.2.2, hk.1.2⟩⟩⟩))))⟩; have n4_ : Aside0 (w46.heap[gb344]? = some (.cells #[.slice A0_0 l0_0.length c0_0, .slice A0_1 l0_1.length c0_1] 25 (0, 0))) := ⟨(by rw [hw]; exact (by (with_reducible repeat (first | refine qN ?_ _ | refine qD ?_ | refine qA ?_ _)); refine blk_far ?_ NB344_354.out _; (with_reducible repeat (first | refine qN ?_ _ | refine qD ?_ | refine qA ?_ _)); refine blk_far ?_ NB344_354.out _; (with_reducible repeat (first | refine qN ?_ _ | refine qD ?_ | refine qA ?_ _)); exact BK344.out))⟩; have n5_ : Aside0 (w46.heap[gb354]? = some (.cells #[.slice Ao42 t348.length co42, .slice Ao45 t351.length co45] 25 (0, 0))) := ⟨(by rw [hw]; exact (by (with_reducible repeat (first | refine qN ?_ _ | refine qD ?_ | refine qA ?_ _)); refine blk_put (cs := #[.slice Ao42 t348.length co42, .slice none 0 0]) ?_ 1 _ rfl; (with_reducible repeat (first | refine qN ?_ _ | refine qD ?_ | refine qA ?_ _)); refine blk_put (cs := #[.slice none 0 0, .slice none 0 0]) ?_ 0 _ rfl; (with_reducible repeat (first | refine qN ?_ _ | refine qD ?_ | refine qA ?_ _)); exact BK354.out))⟩; have n6_ : Aside0 (Below w.heap.size w w46) := ⟨(by rw [hw]; exact (by repeat (first | (with_reducible first | exact HB.out | apply pA | apply pN | apply pD | refine pS ?_ GE344.out | refine pS ?_ GE354.out) | exact HB.out)))⟩; clear hw; clear HO_345000; clear HO_345001; clear HO350; clear HO353; clear BK344; clear BK354; clear HB; have HO_345000 := n0_; have HO_345001 := n1_; have HO350 := n2_; have HO353 := n3_; have BK344 := n4_; have BK354 := n5_; have HB := n6_; clear n0_ n1_ n2_ n3_ n4_ n5_ n6_; have hcz47_0 : w46.cell? ⟨gb354, 0, none⟩ = some (.slice Ao42 t348.length co42) := (blk_cell BK354.out 0).trans rfl; have hcz47_1 : w46.cell? ⟨gb354, 1, none⟩ = some (.slice Ao45 t351.length co45) := (blk_cell BK354.out 1).trans rfl; have hfz47_0 := blk_frozen BK354.out 0; have hfz47_1 := blk_frozen BK354.out 1) | ((with_reducible refine gate_callee (f := 14) rfl ?_); refine goesL_ (some 44) rfl rfl Try.func14 (by kernel_rfl) rfl #[.agg #[.slice Ao42 t348.length co42, .slice Ao45 t351.length co45], .int .i64 a1] rfl (by (try simp only [List.map_toArray, List.map_cons, List.map_nil]); first | done | rfl | (simp only [List.length_drop, List.length_take]; rfl)) ?_; (with_reducible refine (disk_Read.calls kj4 (fun k_ => (((P0_0_ k_ ∨ P0_1_ k_) ∨ w.heap.size ≤ k_) ∧ (some k_ ≠ (.slice Ao45 t351.length co45 : Value).ownBlock ∧ (k_ ≠ gb344 ∧ k_ ≠ gb354)))) _ _ t348 (fun k_ => (((P0_0_ k_ ∨ P0_1_ k_) ∨ w.heap.size ≤ k_) ∧ (some k_ ≠ (.slice Ao42 t348.length co42 : Value).ownBlock ∧ (k_ ≠ gb344 ∧ k_ ≠ gb354)))) _ _ t351 a1 t355 t358 _ ?side1 ?side2 A34.out).mono ?_); (case side1 => exact Kd.N_V (HO350.out)); (case side2 => exact Kd.N_V (HO353.out)); rintro e w48 ⟨v356, rfl, ho0, hb⟩; refine ⟨_, rfl, ?_⟩; have n0_ := Aside0.mk (Kd.V_elder' (zV HO_345000.out) (Kd.R_base ho0) hb); have n1_ := Aside0.mk (Kd.V_elder' (zV HO_345001.out) (Kd.R_base ho0) hb); have n2_ := Aside0.mk (Kd.N_elder' (zN HO350.out) (Kd.R_base ho0) hb); have n3_ := Aside0.mk (Kd.N_elder' (zN HO353.out) (Kd.R_base ho0) hb); have n4_ := Aside0.mk (Kd.R_lower (Kd.R_newM (M := fun k_ => (w.heap.size ≤ k_)) (Kd.R_mono (ok' := fun k_ => True) ho0 (fun _ hk_ => trivial)) (below_size (by repeat (first | (with_reducible first | exact HB.out | apply pA | apply pN | apply pD | refine pS ?_ GE344.out | refine pS ?_ GE354.out) | exact HB.out))) (fun k_ h_ => h_)) (below_size (by repeat (first | (with_reducible first | exact HB.out | apply pA | apply pN | apply pD | refine pS ?_ GE344.out | refine pS ?_ GE354.out) | exact HB.out)))); have n5_ := Aside0.mk (blk_below (g := gb344) (o := .cells #[.slice A0_0 l0_0.length c0_0, .slice A0_1 l0_1.length c0_1] 25 (0, 0)) (zB BK344.out) hb); have n6_ := Aside0.mk (blk_below (g := gb354) (o := .cells #[.slice Ao42 t348.length co42, .slice Ao45 t351.length co45] 25 (0, 0)) (zB BK354.out) hb); have n7_ := Aside0.mk (below_step (by repeat (first | (with_reducible first | exact HB.out | apply pA | apply pN | apply pD | refine pS ?_ GE344.out | refine pS ?_ GE354.out) | exact HB.out)) hb); clear HO_345000; clear HO_345001; clear HO350; clear HO353; clear BK344; clear BK354; clear HB; have HO_345000 := n0_; have HO_345001 := n1_; have HO350 := n2_; have HO353 := n3_; have HO357 := n4_; have BK344 := n5_; have BK354 := n6_; have HB := n7_; clear n0_ n1_ n2_ n3_ n4_ n5_ n6_ n7_; (try clear hb); (try clear hb2); (try clear hk); (try clear hi); (try clear ho0); have hcz49_0 : w48.cell? ⟨gb344, 0, none⟩ = some (.slice A0_0 l0_0.length c0_0) := (blk_cell BK344.out 0).trans rfl; have hcz49_1 : w48.cell? ⟨gb344, 1, none⟩ = some (.slice A0_1 l0_1.length c0_1) := (blk_cell BK344.out 1).trans rfl; have hfz49_0 := blk_frozen BK344.out 0; have hfz49_1 := blk_frozen BK344.out 1; have p359 : 0 ≤ (a1 : Int) := of_decide_eq_true (by first | (with_reducible assumption) | assumption); have q359 : a1 < (l0_0.length : Int) := of_decide_eq_true (by first | (with_reducible assumption) | assumption); obtain ⟨ad359, A359_0, c359_0, e359, hx359_0, hl359_0, hi359_0⟩ := at_L2 (Kd.V_reads' HO_345000.out).2.2 a1 p359 q359; cases e359; obtain ⟨ce359, hce359, hMe359, hcc359⟩ := Kd.V_get HO_345000.out [] a1 p359 (by first | exact q359 | exact of_decide_eq_true (by first | (with_reducible assumption) | assumption) | (have e_ := (Kd.V_reads' HO_345000.out).1; omega)); obtain ⟨ua359_0, uc359_0, rfl, ul359_0, ge359_0⟩ := Kd.FK_slice_open hMe359; have hv359_0 := hcc359 0 _ rfl; rw [Nat.add_zero, show ((Kd.slice 5 (Kd.int .u8))).sz = 1 from rfl, Nat.mul_one] at hv359_0; replace hv359_0 := Option.some.inj (hv359_0.symm.trans hx359_0); injection hv359_0 with hva_ hvn_ hvc_; rw [hva_] at ge359_0; rw [hvc_] at ul359_0; have HL359_0 := Aside0.mk (show Kd.V (Kd.int .u8) 5 _ w.heap.size _ _ (rd_L2 l0_0 a1) from Kd.V_mk ul359_0 ge359_0); clear hva_ hvn_ hvc_ ge359_0 ul359_0; clear hcc359 hce359; have HR359_0 := Aside0.mk hi359_0; have HC359_0 := Aside0.mk hl359_0; clear hi359_0 hl359_0; replace p359 := eq_true p359; replace q359 := eq_true q359) | ((with_reducible refine gate_dst (N := 55) rfl ?_); (try (refine gate_guard (by rfl) ?_; dsimp only)); refine Kd.R_make Kd.bool _ 4 rfl (N := 55) rfl 27 _ _ rfl (l0_1.length : Int) rfl rfl Try.underlying27 (.bool false) 1 info4 rfl (by decide) (by omega) false (ok := fun _ => True) (okp := fun _ => True) rfl (fun _ hk => hk) trivial (of_decide_eq_true (by first | (with_reducible assumption) | assumption)) (Nat.le_trans (Nat.mul_le_mul_right _ (of_decide_eq_true (by first | (with_reducible assumption) | assumption) : (l0_1.length : Int).toNat ≤ 281474976710656)) (by omega)) (Below.refl _ _) (Nat.le_refl _) ?_; intro v361 w50 ho51 hb hg_ hnew_; clear hg_ hnew_; (first | rw [← Ny360.out] at ho51 | (simp only [Int.reduceToNat] at ho51; rw [← Ny360.out] at ho51)); have n0_ := Aside0.mk (Kd.V_elder' (zV HO_345000.out) (Kd.R_base ho51) hb); have n1_ := Aside0.mk (Kd.V_elder' (zV HO_345001.out) (Kd.R_base ho51) hb); have n2_ := Aside0.mk (Kd.N_elder' (zN HO350.out) (Kd.R_base ho51) hb); have n3_ := Aside0.mk (Kd.N_elder' (zN HO353.out) (Kd.R_base ho51) hb); have n4_ := Aside0.mk (Kd.R_below (zR HO357.out) hb); have n5_ := Aside0.mk (Kd.V_elder' (zV HL359_0.out) (Kd.R_base ho51) hb); have n6_ := Aside0.mk (Kd.R_lower (Kd.R_newM (M := fun k_ => (w.heap.size ≤ k_)) ho51 (below_size (by repeat (first | (with_reducible first | exact HB.out | apply pA | apply pN | apply pD | refine pS ?_ GE344.out | refine pS ?_ GE354.out) | exact HB.out))) (fun k_ h_ => h_)) (below_size (by repeat (first | (with_reducible first | exact HB.out | apply pA | apply pN | apply pD | refine pS ?_ GE344.out | refine pS ?_ GE354.out) | exact HB.out)))); have n7_ := Aside0.mk (blk_below (g := gb344) (o := .cells #[.slice (some ad359) l0_0.length c0_0, .slice A0_1 l0_1.length c0_1] 25 (0, 0)) (zB BK344.out) hb); have n8_ := Aside0.mk (blk_below (g := gb354) (o := .cells #[.slice Ao42 t348.length co42, .slice Ao45 t351.length co45] 25 (0, 0)) (zB BK354.out) hb); have n9_ := Aside0.mk (Kd.C_below (by repeat (first | (with_reducible exact HR359_0.out) | (with_reducible refine Kd.C_alloc ?_ _) | (with_reducible refine Kd.C_drewN ?_ _) | (with_reducible refine Kd.C_drew ?_) | exact HR359_0.out)) hb); have n10_ := Aside0.mk (below_step (by repeat (first | (with_reducible first | exact HB.out | apply pA | apply pN | apply pD | refine pS ?_ GE344.out | refine pS ?_ GE354.out) | exact HB.out)) hb); clear HO_345000; clear HO_345001; clear HO350; clear HO353; clear HO357; clear HL359_0; clear BK344; clear BK354; clear HR359_0; clear HB; have HO_345000 := n0_; have HO_345001 := n1_; have HO350 := n2_; have HO353 := n3_; have HO357 := n4_; have HL359_0 := n5_; have HO362 := n6_; have BK344 := n7_; have BK354 := n8_; have HR359_0 := n9_; have HB := n10_; clear n0_ n1_ n2_ n3_ n4_ n5_ n6_ n7_ n8_ n9_ n10_; clear hb ho51))
        go_loopg [11, 13] kj4 (fun kq v11 v13 w' => ∃ (x11_2 : List Int) (x12_2 : List Bool) (x13_2 : Int), v13 = .int .i64 x13_2 ∧ Aside0 (portreevelaw03_DiskCrashes.l0 kq a1 l2 t345 t355 t358 x11_2 x12_2 x13_2 l0_0 l0_1 t348 t351 = some r) ∧ Aside0 (kq ≤ kj4) ∧ Aside0 (Kd.R (Kd.int .u8) 5 w' w.heap.size (fun k_ => (w.heap.size ≤ k_)) v356 t355) ∧ Aside0 (Kd.V (Kd.int .u8) 5 w' w.heap.size (fun k_ => ((P0_0_ k_ ∨ P0_1_ k_) ∨ w.heap.size ≤ k_) ∧ some k_ ≠ (v356 : Value).ownBlock ∧ some k_ ≠ (v361 : Value).ownBlock ∧ some k_ ≠ ((.slice Ao42 t348.length co42) : Value).ownBlock ∧ some k_ ≠ ((.slice Ao45 t351.length co45) : Value).ownBlock ∧ k_ ≠ gb344 ∧ k_ ≠ gb354) v11 x11_2) ∧ Aside0 (Kd.R Kd.bool 4 w' w.heap.size (fun k_ => (w.heap.size ≤ k_)) v361 x12_2) ∧ Aside0 (Kd.V (Kd.slice 5 (Kd.int .u8)) 26 w' w.heap.size (fun k_ => ((P0_0_ k_ ∨ P0_1_ k_) ∨ w.heap.size ≤ k_) ∧ some k_ ≠ (v356 : Value).ownBlock ∧ some k_ ≠ (v361 : Value).ownBlock ∧ some k_ ≠ ((.slice Ao42 t348.length co42) : Value).ownBlock ∧ some k_ ≠ ((.slice Ao45 t351.length co45) : Value).ownBlock ∧ k_ ≠ gb344 ∧ k_ ≠ gb354) (.slice (some ad359) l0_0.length c0_0) l0_0) ∧ Aside0 (Kd.V k47 47 w' w.heap.size (fun k_ => ((P0_0_ k_ ∨ P0_1_ k_) ∨ w.heap.size ≤ k_) ∧ some k_ ≠ (v356 : Value).ownBlock ∧ some k_ ≠ (v361 : Value).ownBlock ∧ some k_ ≠ ((.slice Ao42 t348.length co42) : Value).ownBlock ∧ some k_ ≠ ((.slice Ao45 t351.length co45) : Value).ownBlock ∧ k_ ≠ gb344 ∧ k_ ≠ gb354) (.slice A0_1 l0_1.length c0_1) l0_1) ∧ Aside0 (Kd.N (Kd.slice 5 (Kd.int .u8)) 26 w' w.heap.size (fun k_ => ((P0_0_ k_ ∨ P0_1_ k_) ∨ w.heap.size ≤ k_) ∧ some k_ ≠ (v356 : Value).ownBlock ∧ some k_ ≠ (v361 : Value).ownBlock ∧ some k_ ≠ ((.slice Ao45 t351.length co45) : Value).ownBlock ∧ k_ ≠ gb344 ∧ k_ ≠ gb354) (.slice Ao42 t348.length co42) t348) ∧ Aside0 (Kd.N k47 47 w' w.heap.size (fun k_ => ((P0_0_ k_ ∨ P0_1_ k_) ∨ w.heap.size ≤ k_) ∧ some k_ ≠ (v356 : Value).ownBlock ∧ some k_ ≠ (v361 : Value).ownBlock ∧ some k_ ≠ ((.slice Ao42 t348.length co42) : Value).ownBlock ∧ k_ ≠ gb344 ∧ k_ ≠ gb354) (.slice Ao45 t351.length co45) t351) ∧ Aside0 (w'.heap[gb344]? = some (.cells #[(.slice (some ad359) l0_0.length c0_0), (.slice A0_1 l0_1.length c0_1)] 25 (0, 0))) ∧ Aside0 (w'.heap[gb354]? = some (.cells #[(.slice Ao42 t348.length co42), (.slice Ao45 t351.length co45)] 25 (0, 0))) ∧ Aside0 (Below w.heap.size w w'))
        case atStart => exact ⟨(rd_L2 l0_0 a1), (y360), (0), (by first | rfl | (simp; done) | (simp [*]; done)), H', ⟨Nat.le_refl _⟩, ⟨zR (Kd.R_mono HO357.out (fun _ hk => hk.1))⟩, ⟨zV (Kd.V_mono HL359_0.out (fun _ hk => ⟨hk.1.1.1, ⟨hk.1.2, ⟨hk.2, ⟨hk.1.1.2.1, ⟨hk.1.1.2.2.1, ⟨hk.1.1.2.2.2.1, hk.1.1.2.2.2.2⟩⟩⟩⟩⟩⟩))⟩, ⟨zR (Kd.R_mono HO362.out (fun _ hk => hk.1))⟩, ⟨zV (Kd.V_mono HO_345000.out (fun _ hk => ⟨hk.1.1.1, ⟨hk.1.2, ⟨hk.2, ⟨hk.1.1.2.1, ⟨hk.1.1.2.2.1, ⟨hk.1.1.2.2.2.1, hk.1.1.2.2.2.2⟩⟩⟩⟩⟩⟩))⟩, ⟨zV (Kd.V_mono HO_345001.out (fun _ hk => ⟨hk.1.1.1, ⟨hk.1.2, ⟨hk.2, ⟨hk.1.1.2.1, ⟨hk.1.1.2.2.1, ⟨hk.1.1.2.2.2.1, hk.1.1.2.2.2.2⟩⟩⟩⟩⟩⟩))⟩, ⟨zN (Kd.N_mono HO350.out (fun _ hk => ⟨hk.1.1.1, ⟨hk.1.2, ⟨hk.2, ⟨hk.1.1.2.1, ⟨hk.1.1.2.2.1, hk.1.1.2.2.2⟩⟩⟩⟩⟩))⟩, ⟨zN (Kd.N_mono HO353.out (fun _ hk => ⟨hk.1.1.1, ⟨hk.1.2, ⟨hk.2, ⟨hk.1.1.2.1, ⟨hk.1.1.2.2.1, hk.1.1.2.2.2⟩⟩⟩⟩⟩))⟩, ⟨zB BK344.out⟩, ⟨zB BK354.out⟩, ⟨by repeat (first | (with_reducible first | exact HB.out | apply pA | apply pN | apply pD | refine pS ?_ GE344.out | refine pS ?_ GE354.out) | exact HB.out)⟩⟩
        case round =>
         clear H'
         try clear c1
         try clear c2
         try clear p2
         try clear c3
         try clear p3
         try clear q3
         try clear hx3
         try clear c4
         try clear c9
         try clear c10
         try clear c11
         try clear c12
         try clear c12b0
         try clear c14
         try clear c17
         try clear c17b0
         try clear c20
         try clear c32
         try clear c35
         try clear c35b0
         try clear p35
         try clear q35
         try clear hx35
         try clear c36
         try clear c36b0
         try clear c37
         try clear c37b0
         try clear c37b1
         try clear c38
         try clear c38b0
         try clear c38b1
         try clear c43
         try clear hcz13_0
         try clear hcz13_1
         try clear hcz15_0
         try clear hcz15_1
         try clear hcz18_0
         try clear hcz18_1
         try clear hcz20_0
         try clear hcz20_1
         try clear hcz22_0
         try clear hcz22_1
         try clear hcz24_0
         try clear hcz24_1
         try clear hcz26_0
         try clear hcz26_1
         try clear hcz28_0
         try clear hcz28_1
         try clear hcz30_0
         try clear hcz30_1
         try clear hcz39_0
         try clear hcz39_1
         try clear hcz44_0
         try clear hcz44_1
         try clear hcz47_0
         try clear hcz47_1
         try clear hcz49_0
         try clear hcz49_1
         try clear hfz13_0
         try clear hfz13_1
         try clear hfz15_0
         try clear hfz15_1
         try clear hfz18_0
         try clear hfz18_1
         try clear hfz20_0
         try clear hfz20_1
         try clear hfz22_0
         try clear hfz22_1
         try clear hfz24_0
         try clear hfz24_1
         try clear hfz26_0
         try clear hfz26_1
         try clear hfz28_0
         try clear hfz28_1
         try clear hfz30_0
         try clear hfz30_1
         try clear hfz39_0
         try clear hfz39_1
         try clear hfz44_0
         try clear hfz44_1
         try clear hfz47_0
         try clear hfz47_1
         try clear hfz49_0
         try clear hfz49_1
         try clear hx359_0
         try clear p2
         try clear p359
         try clear q359
         obtain ⟨x11_2, x12_2, x13_2, rfl, HA, HK2, HO_9, HO_11, HO_12, HO_345000, HO_345001, HO_355000, HO_355001, BK344, BK354, HB⟩ := hrel
         cases gk with
         | zero => exact absurd HA.out (by simp [portreevelaw03_DiskCrashes.l0])
         | succ k2 =>
          have H := HA.out
          clear HA
          simp only [portreevelaw03_DiskCrashes.l0] at H
          by_cases c52 : x13_2 < (l0_1.length : Int)
          ·rw [if_pos c52] at H
           have c52b0 : decide (x13_2 < (l0_1.length : Int)) = true := decide_eq_true c52
           clear c52
           by_cases c53 : 0 ≤ x13_2
           ·rw [if_pos c53] at H
            have c53b0 : decide (0 ≤ x13_2) = true := decide_eq_true c53
            clear c53
            by_cases c54 : x13_2 < (x12_2.length : Int)
            ·rw [if_pos c54] at H
             have c54b0 : decide (x13_2 < (x12_2.length : Int)) = true := decide_eq_true c54
             clear c54
             obtain ⟨y363, hy363⟩ : ∃ y_ : List Bool, y_ = (x12_2.set (x13_2 : Int).toNat true) := ⟨_, rfl⟩
             replace H : (if ((rd_T47 l0_1 x13_2).f0) = a1 then (if x13_2 < (l2.length : Int) then (if rdOf false l2 x13_2 = true then (portreevelaw03_DiskCrashes.l0 k2 a1 l2 t345 t355 t358 ((rd_T47 l0_1 x13_2).f1) y363 (wrap64 (x13_2 + 1)) l0_0 l0_1 t348 t351) else (portreevelaw03_DiskCrashes.l0 k2 a1 l2 t345 t355 t358 x11_2 y363 (wrap64 (x13_2 + 1)) l0_0 l0_1 t348 t351)) else (portreevelaw03_DiskCrashes.l0 k2 a1 l2 t345 t355 t358 x11_2 y363 (wrap64 (x13_2 + 1)) l0_0 l0_1 t348 t351)) else (portreevelaw03_DiskCrashes.l0 k2 a1 l2 t345 t355 t358 x11_2 y363 (wrap64 (x13_2 + 1)) l0_0 l0_1 t348 t351)) = some r := by first | (rw [hy363]; with_reducible exact H) | (have H2_ := (Option.bind_some _ _).symm.trans H; rw [hy363]; with_reducible exact H2_) | (have H2_ := (Option.bind_some _ _).symm.trans H; with_reducible exact H2_) | with_reducible exact H | (rw [hy363]; exact H) | exact H
             have Ny363 := Aside0.mk hy363
             clear hy363
             by_cases c56 : ((rd_T47 l0_1 x13_2).f0) = a1
             ·rw [if_pos c56] at H
              have c56b0 : (((rd_T47 l0_1 x13_2).f0) == a1) = true := beq_iff_eq.mpr c56
              have c56b1 : (((rd_T47 l0_1 x13_2).f0) != a1) = false := bne_eq_false_iff_eq.mpr c56
              clear c56
              by_cases c57 : x13_2 < (l2.length : Int)
              ·rw [if_pos c57] at H
               have c57b0 : decide (x13_2 < (l2.length : Int)) = true := decide_eq_true c57
               clear c57
               obtain ⟨bq58, hbq58⟩ : ∃ b_ : Bool, b_ = (rdOf false l2 x13_2) := ⟨_, rfl⟩
               replace H : (if bq58 = true then (portreevelaw03_DiskCrashes.l0 k2 a1 l2 t345 t355 t358 ((rd_T47 l0_1 x13_2).f1) y363 (wrap64 (x13_2 + 1)) l0_0 l0_1 t348 t351) else (portreevelaw03_DiskCrashes.l0 k2 a1 l2 t345 t355 t358 x11_2 y363 (wrap64 (x13_2 + 1)) l0_0 l0_1 t348 t351)) = some r := by rw [← hbq58] at H; exact H
               have Nbq58 := Aside0.mk hbq58
               clear hbq58
               by_cases c59 : bq58 = true
               ·subst c59
                have H1 : (portreevelaw03_DiskCrashes.l0 k2 a1 l2 t345 t355 t358 ((rd_T47 l0_1 x13_2).f1) y363 (wrap64 (x13_2 + 1)) l0_0 l0_1 t348 t351) = some r := by rw [if_pos rfl] at H; exact H
                clear H
                have H := H1
                clear H1
                have H' := Aside0.mk H
                clear H
                have hnb60 := NB344_354.out
                have hnc60 := NB354_344.out
                have hcz61_0 : wr.cell? ⟨gb344, 0, none⟩ = some (.slice (some ad359) l0_0.length c0_0) := (blk_cell BK344.out 0).trans rfl
                have hcz61_1 : wr.cell? ⟨gb344, 1, none⟩ = some (.slice A0_1 l0_1.length c0_1) := (blk_cell BK344.out 1).trans rfl
                have hfz61_0 := blk_frozen BK344.out 0
                have hfz61_1 := blk_frozen BK344.out 1
                have p55 : 0 ≤ (x13_2 : Int) := of_decide_eq_true (by first | (with_reducible assumption) | assumption)
                have q55 : (x13_2 : Int) < ((x12_2.length : Int) : Int) := of_decide_eq_true (by first | (with_reducible assumption) | assumption)
                obtain ⟨go55, co55, eo55, gb55, gl55, cl55, HG55⟩ := Kd.R_form HO_12.out (by omega)
                (first | cases eo55 | (injection eo55 with ea_ en_ ec_; (first | subst ea_ | (injection ea_ with ea_; subst ea_)); subst ec_; clear en_))
                have GB55 := Aside0.mk gb55
                have GG55 := Aside0.mk HG55
                clear gb55 gl55 HG55
                obtain ⟨hx55_0, hf55_0⟩ := Kd.R_celln false HO_12.out (x13_2 : Int) p55 q55
                replace p55 := eq_true p55
                replace q55 := eq_true q55
                have HP62 := Kd.R_putg HO_12.out (x13_2 : Int) true
                go_wp2_with (first | ((with_reducible refine gate_store (t := 4) (p := 65) rfl ?_); refine store_event (t := 4) (p := 65) (v := ?vo_w63) (w1 := (wr.setCell ⟨go55, (x13_2 : Int).toNat, none⟩ (.bool true))) ?hg ?ho ?hn ?hr ?_; (case ho => rfl); (case hg => rfl); (case hn => rfl); (case hr => first | (go_simp; done) | (go_simp; rfl)); intro w63 hw; have hg : wr.grownBy w63 (some go55) := (by rw [hw]; exact HP62.2); have hp_ : Kd.R Kd.bool 4 w63 w.heap.size (fun k_ => (w.heap.size ≤ k_)) (.slice (some ⟨go55, 0, none⟩) x12_2.length co55) y363 := (by rw [hw, Ny363.out]; exact HP62.1); clear HP62; have n0_ := Aside0.mk (Kd.R_over' (v := (.slice (some ⟨go55, 0, none⟩) x12_2.length co55)) (zR HO_9.out) (Kd.R_typed HO_12.out) (by decide) hg); have n1_ := Aside0.mk (Kd.V_afterv (v := (.slice (some ⟨go55, 0, none⟩) x12_2.length co55)) (v1 := (.slice (some ⟨go55, 0, none⟩) x12_2.length co55)) (ok := (fun k_ => ((P0_0_ k_ ∨ P0_1_ k_) ∨ w.heap.size ≤ k_) ∧ some k_ ≠ (v356 : Value).ownBlock ∧ some k_ ≠ (.slice Ao42 t348.length co42 : Value).ownBlock ∧ some k_ ≠ (.slice Ao45 t351.length co45 : Value).ownBlock ∧ k_ ≠ gb344 ∧ k_ ≠ gb354)) (zV (Kd.V_mono HO_11.out (fun _ hk => ⟨⟨hk.1, ⟨hk.2.1, ⟨hk.2.2.2.1, ⟨hk.2.2.2.2.1, ⟨hk.2.2.2.2.2.1, hk.2.2.2.2.2.2⟩⟩⟩⟩⟩, hk.2.2.1⟩))) hg (.inl rfl)); have n2_ := Aside0.mk (hp_); have n3_ := Aside0.mk (Kd.V_afterv (v := (.slice (some ⟨go55, 0, none⟩) x12_2.length co55)) (v1 := (.slice (some ⟨go55, 0, none⟩) x12_2.length co55)) (ok := (fun k_ => ((P0_0_ k_ ∨ P0_1_ k_) ∨ w.heap.size ≤ k_) ∧ some k_ ≠ (v356 : Value).ownBlock ∧ some k_ ≠ (.slice Ao42 t348.length co42 : Value).ownBlock ∧ some k_ ≠ (.slice Ao45 t351.length co45 : Value).ownBlock ∧ k_ ≠ gb344 ∧ k_ ≠ gb354)) (zV (Kd.V_mono HO_345000.out (fun _ hk => ⟨⟨hk.1, ⟨hk.2.1, ⟨hk.2.2.2.1, ⟨hk.2.2.2.2.1, ⟨hk.2.2.2.2.2.1, hk.2.2.2.2.2.2⟩⟩⟩⟩⟩, hk.2.2.1⟩))) hg (.inl rfl)); have n4_ := Aside0.mk (Kd.V_afterv (v := (.slice (some ⟨go55, 0, none⟩) x12_2.length co55)) (v1 := (.slice (some ⟨go55, 0, none⟩) x12_2.length co55)) (ok := (fun k_ => ((P0_0_ k_ ∨ P0_1_ k_) ∨ w.heap.size ≤ k_) ∧ some k_ ≠ (v356 : Value).ownBlock ∧ some k_ ≠ (.slice Ao42 t348.length co42 : Value).ownBlock ∧ some k_ ≠ (.slice Ao45 t351.length co45 : Value).ownBlock ∧ k_ ≠ gb344 ∧ k_ ≠ gb354)) (zV (Kd.V_mono HO_345001.out (fun _ hk => ⟨⟨hk.1, ⟨hk.2.1, ⟨hk.2.2.2.1, ⟨hk.2.2.2.2.1, ⟨hk.2.2.2.2.2.1, hk.2.2.2.2.2.2⟩⟩⟩⟩⟩, hk.2.2.1⟩))) hg (.inl rfl)); have n5_ := Aside0.mk (Kd.N_afterv (v := (.slice (some ⟨go55, 0, none⟩) x12_2.length co55)) (v1 := (.slice (some ⟨go55, 0, none⟩) x12_2.length co55)) (ok := (fun k_ => ((P0_0_ k_ ∨ P0_1_ k_) ∨ w.heap.size ≤ k_) ∧ some k_ ≠ (v356 : Value).ownBlock ∧ some k_ ≠ (.slice Ao45 t351.length co45 : Value).ownBlock ∧ k_ ≠ gb344 ∧ k_ ≠ gb354)) (zN (Kd.N_mono HO_355000.out (fun _ hk => ⟨⟨hk.1, ⟨hk.2.1, ⟨hk.2.2.2.1, ⟨hk.2.2.2.2.1, hk.2.2.2.2.2⟩⟩⟩⟩, hk.2.2.1⟩))) hg (.inl rfl)); have n6_ := Aside0.mk (Kd.N_afterv (v := (.slice (some ⟨go55, 0, none⟩) x12_2.length co55)) (v1 := (.slice (some ⟨go55, 0, none⟩) x12_2.length co55)) (ok := (fun k_ => ((P0_0_ k_ ∨ P0_1_ k_) ∨ w.heap.size ≤ k_) ∧ some k_ ≠ (v356 : Value).ownBlock ∧ some k_ ≠ (.slice Ao42 t348.length co42 : Value).ownBlock ∧ k_ ≠ gb344 ∧ k_ ≠ gb354)) (zN (Kd.N_mono HO_355001.out (fun _ hk => ⟨⟨hk.1, ⟨hk.2.1, ⟨hk.2.2.2.1, ⟨hk.2.2.2.2.1, hk.2.2.2.2.2⟩⟩⟩⟩, hk.2.2.1⟩))) hg (.inl rfl)); have n7_ := Aside0.mk (blk_grown (g := gb344) (o := .cells #[.slice (some ad359) l0_0.length c0_0, .slice A0_1 l0_1.length c0_1] 25 (0, 0)) (zB BK344.out) hg (Kd.R_ne HO_12.out BK344.out (by decide))); have n8_ := Aside0.mk (blk_grown (g := gb354) (o := .cells #[.slice Ao42 t348.length co42, .slice Ao45 t351.length co45] 25 (0, 0)) (zB BK354.out) hg (Kd.R_ne HO_12.out BK354.out (by decide))); have n9_ := Aside0.mk ((by rw [hw]; exact pS (HB.out) GB55.out : Below w.heap.size w w63)); clear HO_9; clear HO_11; clear HO_12; clear HO_345000; clear HO_345001; clear HO_355000; clear HO_355001; clear BK344; clear BK354; clear HB; have HO_9 := n0_; have HO_11 := n1_; have HO_12 := n2_; have HO_345000 := n3_; have HO_345001 := n4_; have HO_355000 := n5_; have HO_355001 := n6_; have BK344 := n7_; have BK354 := n8_; have HB := n9_; clear n0_ n1_ n2_ n3_ n4_ n5_ n6_ n7_ n8_ n9_; clear hg hw hp_; have hcz64_0 : w63.cell? ⟨gb344, 0, none⟩ = some (.slice (some ad359) l0_0.length c0_0) := (blk_cell BK344.out 0).trans rfl; have hcz64_1 : w63.cell? ⟨gb344, 1, none⟩ = some (.slice A0_1 l0_1.length c0_1) := (blk_cell BK344.out 1).trans rfl; have hfz64_0 := blk_frozen BK344.out 0; have hfz64_1 := blk_frozen BK344.out 1; have p364 : 0 ≤ (x13_2 : Int) := of_decide_eq_true (by first | (with_reducible assumption) | assumption); have q364 : x13_2 < (l0_1.length : Int) := of_decide_eq_true (by first | (with_reducible assumption) | assumption); obtain ⟨ad364, A364_1, c364_1, e364, hx364_0, hx364_1, hl364_1, hi364_1⟩ := at_T47 (Kd.V_reads' HO_345001.out).2.2 x13_2 p364 q364; cases e364; obtain ⟨ce364, hce364, hMe364, hcc364⟩ := Kd.V_get HO_345001.out z47 x13_2 p364 (by first | exact q364 | exact of_decide_eq_true (by first | (with_reducible assumption) | assumption) | (have e_ := (Kd.V_reads' HO_345001.out).1; omega)); obtain ⟨ua364_1, uc364_1, rfl, ul364_1, ge364_1⟩ := k47_openF hMe364; have hv364_1 := hcc364 1 _ rfl; rw [add_field _ _ 1 (by omega)] at hv364_1; replace hv364_1 := Option.some.inj (hv364_1.symm.trans hx364_1); injection hv364_1 with hva_ hvn_ hvc_; rw [hva_] at ge364_1; rw [hvc_] at ul364_1; have HL364_1 := Aside0.mk (show Kd.V (Kd.int .u8) 5 _ w.heap.size _ _ ((rd_T47 l0_1 x13_2).f1) from Kd.V_mk ul364_1 ge364_1); clear hva_ hvn_ hvc_ ge364_1 ul364_1; clear hcc364 hce364; have HR364_1 := Aside0.mk hi364_1; have HC364_1 := Aside0.mk hl364_1; clear hi364_1 hl364_1; replace p364 := eq_true p364; replace q364 := eq_true q364; have p365 : 0 ≤ (x13_2 : Int) := of_decide_eq_true (by first | (with_reducible assumption) | assumption); have q365 : x13_2 < (l2.length : Int) := of_decide_eq_true (by first | (with_reducible assumption) | assumption); obtain ⟨ad365, e365, hx365_0⟩ := Kd.at_bool HR2.out x13_2 p365 q365; (try rw [← Nbq58.out] at hx365_0); cases e365; replace hx365_0 := (HB.out.cell (World.block_lt_of_cell? w _ hx365_0)).trans hx365_0; replace p365 := eq_true p365; replace q365 := eq_true q365; have p366 : 0 ≤ (x13_2 : Int) := of_decide_eq_true (by first | (with_reducible assumption) | assumption); have q366 : x13_2 < (l0_1.length : Int) := of_decide_eq_true (by first | (with_reducible assumption) | assumption); obtain ⟨ad366, A366_1, c366_1, e366, hx366_0, hx366_1, hl366_1, hi366_1⟩ := at_T47 (Kd.V_reads' HO_345001.out).2.2 x13_2 p366 q366; obtain rfl : ad364 = ad366 := (by injection e366); obtain ⟨ce366, hce366, hMe366, hcc366⟩ := Kd.V_get HO_345001.out z47 x13_2 p366 (by first | exact q366 | exact of_decide_eq_true (by first | (with_reducible assumption) | assumption) | (have e_ := (Kd.V_reads' HO_345001.out).1; omega)); obtain ⟨ua366_1, uc366_1, rfl, ul366_1, ge366_1⟩ := k47_openF hMe366; have hv366_1 := hcc366 1 _ rfl; rw [add_field _ _ 1 (by omega)] at hv366_1; replace hv366_1 := Option.some.inj (hv366_1.symm.trans hx366_1); injection hv366_1 with hva_ hvn_ hvc_; rw [hva_] at ge366_1; rw [hvc_] at ul366_1; have HL366_1 := Aside0.mk (show Kd.V (Kd.int .u8) 5 _ w.heap.size _ _ ((rd_T47 l0_1 x13_2).f1) from Kd.V_mk ul366_1 ge366_1); clear hva_ hvn_ hvc_ ge366_1 ul366_1; clear hcc366 hce366; have HR366_1 := Aside0.mk hi366_1; have HC366_1 := Aside0.mk hl366_1; clear hi366_1 hl366_1; replace p366 := eq_true p366; replace q366 := eq_true q366; have ea_ := Option.some.inj (hx364_1.symm.trans hx366_1); injection ea_ with ea_ en_ ec_; subst ea_; subst ec_; clear en_))
                go_roundg k2
                case measure => have := HJ4.out; have := HK2.out; omega
                case rel => exact ⟨((rd_T47 l0_1 x13_2).f1), (y363), (wrap64 (x13_2 + 1)), (by first | rfl | (simp; done) | (simp [*]; done)), H', ⟨by have := HJ4.out; have := HK2.out; omega⟩, ⟨zR HO_9.out⟩, ⟨zV (Kd.V_mono HL366_1.out (fun _ hk => ⟨hk.1.1, ⟨hk.1.2.1, ⟨hk.2, ⟨hk.1.2.2.1, ⟨hk.1.2.2.2.1, ⟨hk.1.2.2.2.2.1, hk.1.2.2.2.2.2⟩⟩⟩⟩⟩⟩))⟩, ⟨zR HO_12.out⟩, ⟨zV (Kd.V_mono HO_345000.out (fun _ hk => ⟨hk.1.1, ⟨hk.1.2.1, ⟨hk.2, ⟨hk.1.2.2.1, ⟨hk.1.2.2.2.1, ⟨hk.1.2.2.2.2.1, hk.1.2.2.2.2.2⟩⟩⟩⟩⟩⟩))⟩, ⟨zV (Kd.V_mono HO_345001.out (fun _ hk => ⟨hk.1.1, ⟨hk.1.2.1, ⟨hk.2, ⟨hk.1.2.2.1, ⟨hk.1.2.2.2.1, ⟨hk.1.2.2.2.2.1, hk.1.2.2.2.2.2⟩⟩⟩⟩⟩⟩))⟩, ⟨zN (Kd.N_mono HO_355000.out (fun _ hk => ⟨hk.1.1, ⟨hk.1.2.1, ⟨hk.2, ⟨hk.1.2.2.1, ⟨hk.1.2.2.2.1, hk.1.2.2.2.2⟩⟩⟩⟩⟩))⟩, ⟨zN (Kd.N_mono HO_355001.out (fun _ hk => ⟨hk.1.1, ⟨hk.1.2.1, ⟨hk.2, ⟨hk.1.2.2.1, ⟨hk.1.2.2.2.1, hk.1.2.2.2.2⟩⟩⟩⟩⟩))⟩, ⟨zB BK344.out⟩, ⟨zB BK354.out⟩, ⟨by repeat (first | (with_reducible first | exact HB.out | apply pA | apply pN | apply pD | refine pS ?_ GE344.out | refine pS ?_ GE354.out) | exact HB.out)⟩⟩
               ·replace c59 := Bool.eq_false_iff.mpr c59
                subst c59
                have H1 : (portreevelaw03_DiskCrashes.l0 k2 a1 l2 t345 t355 t358 x11_2 y363 (wrap64 (x13_2 + 1)) l0_0 l0_1 t348 t351) = some r := by rw [if_neg (show ¬ (false = true) by decide)] at H; exact H
                clear H
                have H := H1
                clear H1
                have H' := Aside0.mk H
                clear H
                have hnb65 := NB344_354.out
                have hnc65 := NB354_344.out
                have hcz66_0 : wr.cell? ⟨gb344, 0, none⟩ = some (.slice (some ad359) l0_0.length c0_0) := (blk_cell BK344.out 0).trans rfl
                have hcz66_1 : wr.cell? ⟨gb344, 1, none⟩ = some (.slice A0_1 l0_1.length c0_1) := (blk_cell BK344.out 1).trans rfl
                have hfz66_0 := blk_frozen BK344.out 0
                have hfz66_1 := blk_frozen BK344.out 1
                have p55 : 0 ≤ (x13_2 : Int) := of_decide_eq_true (by first | (with_reducible assumption) | assumption)
                have q55 : (x13_2 : Int) < ((x12_2.length : Int) : Int) := of_decide_eq_true (by first | (with_reducible assumption) | assumption)
                obtain ⟨go55, co55, eo55, gb55, gl55, cl55, HG55⟩ := Kd.R_form HO_12.out (by omega)
                (first | cases eo55 | (injection eo55 with ea_ en_ ec_; (first | subst ea_ | (injection ea_ with ea_; subst ea_)); subst ec_; clear en_))
                have GB55 := Aside0.mk gb55
                have GG55 := Aside0.mk HG55
                clear gb55 gl55 HG55
                obtain ⟨hx55_0, hf55_0⟩ := Kd.R_celln false HO_12.out (x13_2 : Int) p55 q55
                replace p55 := eq_true p55
                replace q55 := eq_true q55
                have HP67 := Kd.R_putg HO_12.out (x13_2 : Int) true
                go_wp2_with (first | ((with_reducible refine gate_store (t := 4) (p := 65) rfl ?_); refine store_event (t := 4) (p := 65) (v := ?vo_w68) (w1 := (wr.setCell ⟨go55, (x13_2 : Int).toNat, none⟩ (.bool true))) ?hg ?ho ?hn ?hr ?_; (case ho => rfl); (case hg => rfl); (case hn => rfl); (case hr => first | (go_simp; done) | (go_simp; rfl)); intro w68 hw; have hg : wr.grownBy w68 (some go55) := (by rw [hw]; exact HP67.2); have hp_ : Kd.R Kd.bool 4 w68 w.heap.size (fun k_ => (w.heap.size ≤ k_)) (.slice (some ⟨go55, 0, none⟩) x12_2.length co55) y363 := (by rw [hw, Ny363.out]; exact HP67.1); clear HP67; have n0_ := Aside0.mk (Kd.R_over' (v := (.slice (some ⟨go55, 0, none⟩) x12_2.length co55)) (zR HO_9.out) (Kd.R_typed HO_12.out) (by decide) hg); have n1_ := Aside0.mk (Kd.V_afterv (v := (.slice (some ⟨go55, 0, none⟩) x12_2.length co55)) (v1 := (.slice (some ⟨go55, 0, none⟩) x12_2.length co55)) (ok := (fun k_ => ((P0_0_ k_ ∨ P0_1_ k_) ∨ w.heap.size ≤ k_) ∧ some k_ ≠ (v356 : Value).ownBlock ∧ some k_ ≠ (.slice Ao42 t348.length co42 : Value).ownBlock ∧ some k_ ≠ (.slice Ao45 t351.length co45 : Value).ownBlock ∧ k_ ≠ gb344 ∧ k_ ≠ gb354)) (zV (Kd.V_mono HO_11.out (fun _ hk => ⟨⟨hk.1, ⟨hk.2.1, ⟨hk.2.2.2.1, ⟨hk.2.2.2.2.1, ⟨hk.2.2.2.2.2.1, hk.2.2.2.2.2.2⟩⟩⟩⟩⟩, hk.2.2.1⟩))) hg (.inl rfl)); have n2_ := Aside0.mk (hp_); have n3_ := Aside0.mk (Kd.V_afterv (v := (.slice (some ⟨go55, 0, none⟩) x12_2.length co55)) (v1 := (.slice (some ⟨go55, 0, none⟩) x12_2.length co55)) (ok := (fun k_ => ((P0_0_ k_ ∨ P0_1_ k_) ∨ w.heap.size ≤ k_) ∧ some k_ ≠ (v356 : Value).ownBlock ∧ some k_ ≠ (.slice Ao42 t348.length co42 : Value).ownBlock ∧ some k_ ≠ (.slice Ao45 t351.length co45 : Value).ownBlock ∧ k_ ≠ gb344 ∧ k_ ≠ gb354)) (zV (Kd.V_mono HO_345000.out (fun _ hk => ⟨⟨hk.1, ⟨hk.2.1, ⟨hk.2.2.2.1, ⟨hk.2.2.2.2.1, ⟨hk.2.2.2.2.2.1, hk.2.2.2.2.2.2⟩⟩⟩⟩⟩, hk.2.2.1⟩))) hg (.inl rfl)); have n4_ := Aside0.mk (Kd.V_afterv (v := (.slice (some ⟨go55, 0, none⟩) x12_2.length co55)) (v1 := (.slice (some ⟨go55, 0, none⟩) x12_2.length co55)) (ok := (fun k_ => ((P0_0_ k_ ∨ P0_1_ k_) ∨ w.heap.size ≤ k_) ∧ some k_ ≠ (v356 : Value).ownBlock ∧ some k_ ≠ (.slice Ao42 t348.length co42 : Value).ownBlock ∧ some k_ ≠ (.slice Ao45 t351.length co45 : Value).ownBlock ∧ k_ ≠ gb344 ∧ k_ ≠ gb354)) (zV (Kd.V_mono HO_345001.out (fun _ hk => ⟨⟨hk.1, ⟨hk.2.1, ⟨hk.2.2.2.1, ⟨hk.2.2.2.2.1, ⟨hk.2.2.2.2.2.1, hk.2.2.2.2.2.2⟩⟩⟩⟩⟩, hk.2.2.1⟩))) hg (.inl rfl)); have n5_ := Aside0.mk (Kd.N_afterv (v := (.slice (some ⟨go55, 0, none⟩) x12_2.length co55)) (v1 := (.slice (some ⟨go55, 0, none⟩) x12_2.length co55)) (ok := (fun k_ => ((P0_0_ k_ ∨ P0_1_ k_) ∨ w.heap.size ≤ k_) ∧ some k_ ≠ (v356 : Value).ownBlock ∧ some k_ ≠ (.slice Ao45 t351.length co45 : Value).ownBlock ∧ k_ ≠ gb344 ∧ k_ ≠ gb354)) (zN (Kd.N_mono HO_355000.out (fun _ hk => ⟨⟨hk.1, ⟨hk.2.1, ⟨hk.2.2.2.1, ⟨hk.2.2.2.2.1, hk.2.2.2.2.2⟩⟩⟩⟩, hk.2.2.1⟩))) hg (.inl rfl)); have n6_ := Aside0.mk (Kd.N_afterv (v := (.slice (some ⟨go55, 0, none⟩) x12_2.length co55)) (v1 := (.slice (some ⟨go55, 0, none⟩) x12_2.length co55)) (ok := (fun k_ => ((P0_0_ k_ ∨ P0_1_ k_) ∨ w.heap.size ≤ k_) ∧ some k_ ≠ (v356 : Value).ownBlock ∧ some k_ ≠ (.slice Ao42 t348.length co42 : Value).ownBlock ∧ k_ ≠ gb344 ∧ k_ ≠ gb354)) (zN (Kd.N_mono HO_355001.out (fun _ hk => ⟨⟨hk.1, ⟨hk.2.1, ⟨hk.2.2.2.1, ⟨hk.2.2.2.2.1, hk.2.2.2.2.2⟩⟩⟩⟩, hk.2.2.1⟩))) hg (.inl rfl)); have n7_ := Aside0.mk (blk_grown (g := gb344) (o := .cells #[.slice (some ad359) l0_0.length c0_0, .slice A0_1 l0_1.length c0_1] 25 (0, 0)) (zB BK344.out) hg (Kd.R_ne HO_12.out BK344.out (by decide))); have n8_ := Aside0.mk (blk_grown (g := gb354) (o := .cells #[.slice Ao42 t348.length co42, .slice Ao45 t351.length co45] 25 (0, 0)) (zB BK354.out) hg (Kd.R_ne HO_12.out BK354.out (by decide))); have n9_ := Aside0.mk ((by rw [hw]; exact pS (HB.out) GB55.out : Below w.heap.size w w68)); clear HO_9; clear HO_11; clear HO_12; clear HO_345000; clear HO_345001; clear HO_355000; clear HO_355001; clear BK344; clear BK354; clear HB; have HO_9 := n0_; have HO_11 := n1_; have HO_12 := n2_; have HO_345000 := n3_; have HO_345001 := n4_; have HO_355000 := n5_; have HO_355001 := n6_; have BK344 := n7_; have BK354 := n8_; have HB := n9_; clear n0_ n1_ n2_ n3_ n4_ n5_ n6_ n7_ n8_ n9_; clear hg hw hp_; have hcz69_0 : w68.cell? ⟨gb344, 0, none⟩ = some (.slice (some ad359) l0_0.length c0_0) := (blk_cell BK344.out 0).trans rfl; have hcz69_1 : w68.cell? ⟨gb344, 1, none⟩ = some (.slice A0_1 l0_1.length c0_1) := (blk_cell BK344.out 1).trans rfl; have hfz69_0 := blk_frozen BK344.out 0; have hfz69_1 := blk_frozen BK344.out 1; have p364 : 0 ≤ (x13_2 : Int) := of_decide_eq_true (by first | (with_reducible assumption) | assumption); have q364 : x13_2 < (l0_1.length : Int) := of_decide_eq_true (by first | (with_reducible assumption) | assumption); obtain ⟨ad364, A364_1, c364_1, e364, hx364_0, hx364_1, hl364_1, hi364_1⟩ := at_T47 (Kd.V_reads' HO_345001.out).2.2 x13_2 p364 q364; cases e364; obtain ⟨ce364, hce364, hMe364, hcc364⟩ := Kd.V_get HO_345001.out z47 x13_2 p364 (by first | exact q364 | exact of_decide_eq_true (by first | (with_reducible assumption) | assumption) | (have e_ := (Kd.V_reads' HO_345001.out).1; omega)); obtain ⟨ua364_1, uc364_1, rfl, ul364_1, ge364_1⟩ := k47_openF hMe364; have hv364_1 := hcc364 1 _ rfl; rw [add_field _ _ 1 (by omega)] at hv364_1; replace hv364_1 := Option.some.inj (hv364_1.symm.trans hx364_1); injection hv364_1 with hva_ hvn_ hvc_; rw [hva_] at ge364_1; rw [hvc_] at ul364_1; have HL364_1 := Aside0.mk (show Kd.V (Kd.int .u8) 5 _ w.heap.size _ _ ((rd_T47 l0_1 x13_2).f1) from Kd.V_mk ul364_1 ge364_1); clear hva_ hvn_ hvc_ ge364_1 ul364_1; clear hcc364 hce364; have HR364_1 := Aside0.mk hi364_1; have HC364_1 := Aside0.mk hl364_1; clear hi364_1 hl364_1; replace p364 := eq_true p364; replace q364 := eq_true q364; have p365 : 0 ≤ (x13_2 : Int) := of_decide_eq_true (by first | (with_reducible assumption) | assumption); have q365 : x13_2 < (l2.length : Int) := of_decide_eq_true (by first | (with_reducible assumption) | assumption); obtain ⟨ad365, e365, hx365_0⟩ := Kd.at_bool HR2.out x13_2 p365 q365; (try rw [← Nbq58.out] at hx365_0); cases e365; replace hx365_0 := (HB.out.cell (World.block_lt_of_cell? w _ hx365_0)).trans hx365_0; replace p365 := eq_true p365; replace q365 := eq_true q365))
                go_roundg k2
                case measure => have := HJ4.out; have := HK2.out; omega
                case rel => exact ⟨(x11_2), (y363), (wrap64 (x13_2 + 1)), (by first | rfl | (simp; done) | (simp [*]; done)), H', ⟨by have := HJ4.out; have := HK2.out; omega⟩, ⟨zR HO_9.out⟩, ⟨zV (Kd.V_mono HO_11.out (fun _ hk => ⟨hk.1.1, ⟨hk.1.2.1, ⟨hk.2, ⟨hk.1.2.2.1, ⟨hk.1.2.2.2.1, ⟨hk.1.2.2.2.2.1, hk.1.2.2.2.2.2⟩⟩⟩⟩⟩⟩))⟩, ⟨zR HO_12.out⟩, ⟨zV (Kd.V_mono HO_345000.out (fun _ hk => ⟨hk.1.1, ⟨hk.1.2.1, ⟨hk.2, ⟨hk.1.2.2.1, ⟨hk.1.2.2.2.1, ⟨hk.1.2.2.2.2.1, hk.1.2.2.2.2.2⟩⟩⟩⟩⟩⟩))⟩, ⟨zV (Kd.V_mono HO_345001.out (fun _ hk => ⟨hk.1.1, ⟨hk.1.2.1, ⟨hk.2, ⟨hk.1.2.2.1, ⟨hk.1.2.2.2.1, ⟨hk.1.2.2.2.2.1, hk.1.2.2.2.2.2⟩⟩⟩⟩⟩⟩))⟩, ⟨zN (Kd.N_mono HO_355000.out (fun _ hk => ⟨hk.1.1, ⟨hk.1.2.1, ⟨hk.2, ⟨hk.1.2.2.1, ⟨hk.1.2.2.2.1, hk.1.2.2.2.2⟩⟩⟩⟩⟩))⟩, ⟨zN (Kd.N_mono HO_355001.out (fun _ hk => ⟨hk.1.1, ⟨hk.1.2.1, ⟨hk.2, ⟨hk.1.2.2.1, ⟨hk.1.2.2.2.1, hk.1.2.2.2.2⟩⟩⟩⟩⟩))⟩, ⟨zB BK344.out⟩, ⟨zB BK354.out⟩, ⟨by repeat (first | (with_reducible first | exact HB.out | apply pA | apply pN | apply pD | refine pS ?_ GE344.out | refine pS ?_ GE354.out) | exact HB.out)⟩⟩
              ·rw [if_neg c57] at H
               have c57b0 : decide (x13_2 < (l2.length : Int)) = false := decide_eq_false c57
               clear c57
               have H' := Aside0.mk H
               clear H
               have hnb70 := NB344_354.out
               have hnc70 := NB354_344.out
               have hcz71_0 : wr.cell? ⟨gb344, 0, none⟩ = some (.slice (some ad359) l0_0.length c0_0) := (blk_cell BK344.out 0).trans rfl
               have hcz71_1 : wr.cell? ⟨gb344, 1, none⟩ = some (.slice A0_1 l0_1.length c0_1) := (blk_cell BK344.out 1).trans rfl
               have hfz71_0 := blk_frozen BK344.out 0
               have hfz71_1 := blk_frozen BK344.out 1
               have p55 : 0 ≤ (x13_2 : Int) := of_decide_eq_true (by first | (with_reducible assumption) | assumption)
               have q55 : (x13_2 : Int) < ((x12_2.length : Int) : Int) := of_decide_eq_true (by first | (with_reducible assumption) | assumption)
               obtain ⟨go55, co55, eo55, gb55, gl55, cl55, HG55⟩ := Kd.R_form HO_12.out (by omega)
               (first | cases eo55 | (injection eo55 with ea_ en_ ec_; (first | subst ea_ | (injection ea_ with ea_; subst ea_)); subst ec_; clear en_))
               have GB55 := Aside0.mk gb55
               have GG55 := Aside0.mk HG55
               clear gb55 gl55 HG55
               obtain ⟨hx55_0, hf55_0⟩ := Kd.R_celln false HO_12.out (x13_2 : Int) p55 q55
               replace p55 := eq_true p55
               replace q55 := eq_true q55
               have HP72 := Kd.R_putg HO_12.out (x13_2 : Int) true
               go_wp2_with (first | ((with_reducible refine gate_store (t := 4) (p := 65) rfl ?_); refine store_event (t := 4) (p := 65) (v := ?vo_w73) (w1 := (wr.setCell ⟨go55, (x13_2 : Int).toNat, none⟩ (.bool true))) ?hg ?ho ?hn ?hr ?_; (case ho => rfl); (case hg => rfl); (case hn => rfl); (case hr => first | (go_simp; done) | (go_simp; rfl)); intro w73 hw; have hg : wr.grownBy w73 (some go55) := (by rw [hw]; exact HP72.2); have hp_ : Kd.R Kd.bool 4 w73 w.heap.size (fun k_ => (w.heap.size ≤ k_)) (.slice (some ⟨go55, 0, none⟩) x12_2.length co55) y363 := (by rw [hw, Ny363.out]; exact HP72.1); clear HP72; have n0_ := Aside0.mk (Kd.R_over' (v := (.slice (some ⟨go55, 0, none⟩) x12_2.length co55)) (zR HO_9.out) (Kd.R_typed HO_12.out) (by decide) hg); have n1_ := Aside0.mk (Kd.V_afterv (v := (.slice (some ⟨go55, 0, none⟩) x12_2.length co55)) (v1 := (.slice (some ⟨go55, 0, none⟩) x12_2.length co55)) (ok := (fun k_ => ((P0_0_ k_ ∨ P0_1_ k_) ∨ w.heap.size ≤ k_) ∧ some k_ ≠ (v356 : Value).ownBlock ∧ some k_ ≠ (.slice Ao42 t348.length co42 : Value).ownBlock ∧ some k_ ≠ (.slice Ao45 t351.length co45 : Value).ownBlock ∧ k_ ≠ gb344 ∧ k_ ≠ gb354)) (zV (Kd.V_mono HO_11.out (fun _ hk => ⟨⟨hk.1, ⟨hk.2.1, ⟨hk.2.2.2.1, ⟨hk.2.2.2.2.1, ⟨hk.2.2.2.2.2.1, hk.2.2.2.2.2.2⟩⟩⟩⟩⟩, hk.2.2.1⟩))) hg (.inl rfl)); have n2_ := Aside0.mk (hp_); have n3_ := Aside0.mk (Kd.V_afterv (v := (.slice (some ⟨go55, 0, none⟩) x12_2.length co55)) (v1 := (.slice (some ⟨go55, 0, none⟩) x12_2.length co55)) (ok := (fun k_ => ((P0_0_ k_ ∨ P0_1_ k_) ∨ w.heap.size ≤ k_) ∧ some k_ ≠ (v356 : Value).ownBlock ∧ some k_ ≠ (.slice Ao42 t348.length co42 : Value).ownBlock ∧ some k_ ≠ (.slice Ao45 t351.length co45 : Value).ownBlock ∧ k_ ≠ gb344 ∧ k_ ≠ gb354)) (zV (Kd.V_mono HO_345000.out (fun _ hk => ⟨⟨hk.1, ⟨hk.2.1, ⟨hk.2.2.2.1, ⟨hk.2.2.2.2.1, ⟨hk.2.2.2.2.2.1, hk.2.2.2.2.2.2⟩⟩⟩⟩⟩, hk.2.2.1⟩))) hg (.inl rfl)); have n4_ := Aside0.mk (Kd.V_afterv (v := (.slice (some ⟨go55, 0, none⟩) x12_2.length co55)) (v1 := (.slice (some ⟨go55, 0, none⟩) x12_2.length co55)) (ok := (fun k_ => ((P0_0_ k_ ∨ P0_1_ k_) ∨ w.heap.size ≤ k_) ∧ some k_ ≠ (v356 : Value).ownBlock ∧ some k_ ≠ (.slice Ao42 t348.length co42 : Value).ownBlock ∧ some k_ ≠ (.slice Ao45 t351.length co45 : Value).ownBlock ∧ k_ ≠ gb344 ∧ k_ ≠ gb354)) (zV (Kd.V_mono HO_345001.out (fun _ hk => ⟨⟨hk.1, ⟨hk.2.1, ⟨hk.2.2.2.1, ⟨hk.2.2.2.2.1, ⟨hk.2.2.2.2.2.1, hk.2.2.2.2.2.2⟩⟩⟩⟩⟩, hk.2.2.1⟩))) hg (.inl rfl)); have n5_ := Aside0.mk (Kd.N_afterv (v := (.slice (some ⟨go55, 0, none⟩) x12_2.length co55)) (v1 := (.slice (some ⟨go55, 0, none⟩) x12_2.length co55)) (ok := (fun k_ => ((P0_0_ k_ ∨ P0_1_ k_) ∨ w.heap.size ≤ k_) ∧ some k_ ≠ (v356 : Value).ownBlock ∧ some k_ ≠ (.slice Ao45 t351.length co45 : Value).ownBlock ∧ k_ ≠ gb344 ∧ k_ ≠ gb354)) (zN (Kd.N_mono HO_355000.out (fun _ hk => ⟨⟨hk.1, ⟨hk.2.1, ⟨hk.2.2.2.1, ⟨hk.2.2.2.2.1, hk.2.2.2.2.2⟩⟩⟩⟩, hk.2.2.1⟩))) hg (.inl rfl)); have n6_ := Aside0.mk (Kd.N_afterv (v := (.slice (some ⟨go55, 0, none⟩) x12_2.length co55)) (v1 := (.slice (some ⟨go55, 0, none⟩) x12_2.length co55)) (ok := (fun k_ => ((P0_0_ k_ ∨ P0_1_ k_) ∨ w.heap.size ≤ k_) ∧ some k_ ≠ (v356 : Value).ownBlock ∧ some k_ ≠ (.slice Ao42 t348.length co42 : Value).ownBlock ∧ k_ ≠ gb344 ∧ k_ ≠ gb354)) (zN (Kd.N_mono HO_355001.out (fun _ hk => ⟨⟨hk.1, ⟨hk.2.1, ⟨hk.2.2.2.1, ⟨hk.2.2.2.2.1, hk.2.2.2.2.2⟩⟩⟩⟩, hk.2.2.1⟩))) hg (.inl rfl)); have n7_ := Aside0.mk (blk_grown (g := gb344) (o := .cells #[.slice (some ad359) l0_0.length c0_0, .slice A0_1 l0_1.length c0_1] 25 (0, 0)) (zB BK344.out) hg (Kd.R_ne HO_12.out BK344.out (by decide))); have n8_ := Aside0.mk (blk_grown (g := gb354) (o := .cells #[.slice Ao42 t348.length co42, .slice Ao45 t351.length co45] 25 (0, 0)) (zB BK354.out) hg (Kd.R_ne HO_12.out BK354.out (by decide))); have n9_ := Aside0.mk ((by rw [hw]; exact pS (HB.out) GB55.out : Below w.heap.size w w73)); clear HO_9; clear HO_11; clear HO_12; clear HO_345000; clear HO_345001; clear HO_355000; clear HO_355001; clear BK344; clear BK354; clear HB; have HO_9 := n0_; have HO_11 := n1_; have HO_12 := n2_; have HO_345000 := n3_; have HO_345001 := n4_; have HO_355000 := n5_; have HO_355001 := n6_; have BK344 := n7_; have BK354 := n8_; have HB := n9_; clear n0_ n1_ n2_ n3_ n4_ n5_ n6_ n7_ n8_ n9_; clear hg hw hp_; have hcz74_0 : w73.cell? ⟨gb344, 0, none⟩ = some (.slice (some ad359) l0_0.length c0_0) := (blk_cell BK344.out 0).trans rfl; have hcz74_1 : w73.cell? ⟨gb344, 1, none⟩ = some (.slice A0_1 l0_1.length c0_1) := (blk_cell BK344.out 1).trans rfl; have hfz74_0 := blk_frozen BK344.out 0; have hfz74_1 := blk_frozen BK344.out 1; have p364 : 0 ≤ (x13_2 : Int) := of_decide_eq_true (by first | (with_reducible assumption) | assumption); have q364 : x13_2 < (l0_1.length : Int) := of_decide_eq_true (by first | (with_reducible assumption) | assumption); obtain ⟨ad364, A364_1, c364_1, e364, hx364_0, hx364_1, hl364_1, hi364_1⟩ := at_T47 (Kd.V_reads' HO_345001.out).2.2 x13_2 p364 q364; cases e364; obtain ⟨ce364, hce364, hMe364, hcc364⟩ := Kd.V_get HO_345001.out z47 x13_2 p364 (by first | exact q364 | exact of_decide_eq_true (by first | (with_reducible assumption) | assumption) | (have e_ := (Kd.V_reads' HO_345001.out).1; omega)); obtain ⟨ua364_1, uc364_1, rfl, ul364_1, ge364_1⟩ := k47_openF hMe364; have hv364_1 := hcc364 1 _ rfl; rw [add_field _ _ 1 (by omega)] at hv364_1; replace hv364_1 := Option.some.inj (hv364_1.symm.trans hx364_1); injection hv364_1 with hva_ hvn_ hvc_; rw [hva_] at ge364_1; rw [hvc_] at ul364_1; have HL364_1 := Aside0.mk (show Kd.V (Kd.int .u8) 5 _ w.heap.size _ _ ((rd_T47 l0_1 x13_2).f1) from Kd.V_mk ul364_1 ge364_1); clear hva_ hvn_ hvc_ ge364_1 ul364_1; clear hcc364 hce364; have HR364_1 := Aside0.mk hi364_1; have HC364_1 := Aside0.mk hl364_1; clear hi364_1 hl364_1; replace p364 := eq_true p364; replace q364 := eq_true q364))
               go_roundg k2
               case measure => have := HJ4.out; have := HK2.out; omega
               case rel => exact ⟨(x11_2), (y363), (wrap64 (x13_2 + 1)), (by first | rfl | (simp; done) | (simp [*]; done)), H', ⟨by have := HJ4.out; have := HK2.out; omega⟩, ⟨zR HO_9.out⟩, ⟨zV (Kd.V_mono HO_11.out (fun _ hk => ⟨hk.1.1, ⟨hk.1.2.1, ⟨hk.2, ⟨hk.1.2.2.1, ⟨hk.1.2.2.2.1, ⟨hk.1.2.2.2.2.1, hk.1.2.2.2.2.2⟩⟩⟩⟩⟩⟩))⟩, ⟨zR HO_12.out⟩, ⟨zV (Kd.V_mono HO_345000.out (fun _ hk => ⟨hk.1.1, ⟨hk.1.2.1, ⟨hk.2, ⟨hk.1.2.2.1, ⟨hk.1.2.2.2.1, ⟨hk.1.2.2.2.2.1, hk.1.2.2.2.2.2⟩⟩⟩⟩⟩⟩))⟩, ⟨zV (Kd.V_mono HO_345001.out (fun _ hk => ⟨hk.1.1, ⟨hk.1.2.1, ⟨hk.2, ⟨hk.1.2.2.1, ⟨hk.1.2.2.2.1, ⟨hk.1.2.2.2.2.1, hk.1.2.2.2.2.2⟩⟩⟩⟩⟩⟩))⟩, ⟨zN (Kd.N_mono HO_355000.out (fun _ hk => ⟨hk.1.1, ⟨hk.1.2.1, ⟨hk.2, ⟨hk.1.2.2.1, ⟨hk.1.2.2.2.1, hk.1.2.2.2.2⟩⟩⟩⟩⟩))⟩, ⟨zN (Kd.N_mono HO_355001.out (fun _ hk => ⟨hk.1.1, ⟨hk.1.2.1, ⟨hk.2, ⟨hk.1.2.2.1, ⟨hk.1.2.2.2.1, hk.1.2.2.2.2⟩⟩⟩⟩⟩))⟩, ⟨zB BK344.out⟩, ⟨zB BK354.out⟩, ⟨by repeat (first | (with_reducible first | exact HB.out | apply pA | apply pN | apply pD | refine pS ?_ GE344.out | refine pS ?_ GE354.out) | exact HB.out)⟩⟩
             ·rw [if_neg c56] at H
              have c56b0 : (((rd_T47 l0_1 x13_2).f0) == a1) = false := beq_eq_false_iff_ne.mpr c56
              have c56b1 : (((rd_T47 l0_1 x13_2).f0) != a1) = true := bne_iff_ne.mpr c56
              have H' := Aside0.mk H
              clear H
              have hnb75 := NB344_354.out
              have hnc75 := NB354_344.out
              have hcz76_0 : wr.cell? ⟨gb344, 0, none⟩ = some (.slice (some ad359) l0_0.length c0_0) := (blk_cell BK344.out 0).trans rfl
              have hcz76_1 : wr.cell? ⟨gb344, 1, none⟩ = some (.slice A0_1 l0_1.length c0_1) := (blk_cell BK344.out 1).trans rfl
              have hfz76_0 := blk_frozen BK344.out 0
              have hfz76_1 := blk_frozen BK344.out 1
              have p55 : 0 ≤ (x13_2 : Int) := of_decide_eq_true (by first | (with_reducible assumption) | assumption)
              have q55 : (x13_2 : Int) < ((x12_2.length : Int) : Int) := of_decide_eq_true (by first | (with_reducible assumption) | assumption)
              obtain ⟨go55, co55, eo55, gb55, gl55, cl55, HG55⟩ := Kd.R_form HO_12.out (by omega)
              (first | cases eo55 | (injection eo55 with ea_ en_ ec_; (first | subst ea_ | (injection ea_ with ea_; subst ea_)); subst ec_; clear en_))
              have GB55 := Aside0.mk gb55
              have GG55 := Aside0.mk HG55
              clear gb55 gl55 HG55
              obtain ⟨hx55_0, hf55_0⟩ := Kd.R_celln false HO_12.out (x13_2 : Int) p55 q55
              replace p55 := eq_true p55
              replace q55 := eq_true q55
              have HP77 := Kd.R_putg HO_12.out (x13_2 : Int) true
              go_wp2_with (first | ((with_reducible refine gate_store (t := 4) (p := 65) rfl ?_); refine store_event (t := 4) (p := 65) (v := ?vo_w78) (w1 := (wr.setCell ⟨go55, (x13_2 : Int).toNat, none⟩ (.bool true))) ?hg ?ho ?hn ?hr ?_; (case ho => rfl); (case hg => rfl); (case hn => rfl); (case hr => first | (go_simp; done) | (go_simp; rfl)); intro w78 hw; have hg : wr.grownBy w78 (some go55) := (by rw [hw]; exact HP77.2); have hp_ : Kd.R Kd.bool 4 w78 w.heap.size (fun k_ => (w.heap.size ≤ k_)) (.slice (some ⟨go55, 0, none⟩) x12_2.length co55) y363 := (by rw [hw, Ny363.out]; exact HP77.1); clear HP77; have n0_ := Aside0.mk (Kd.R_over' (v := (.slice (some ⟨go55, 0, none⟩) x12_2.length co55)) (zR HO_9.out) (Kd.R_typed HO_12.out) (by decide) hg); have n1_ := Aside0.mk (Kd.V_afterv (v := (.slice (some ⟨go55, 0, none⟩) x12_2.length co55)) (v1 := (.slice (some ⟨go55, 0, none⟩) x12_2.length co55)) (ok := (fun k_ => ((P0_0_ k_ ∨ P0_1_ k_) ∨ w.heap.size ≤ k_) ∧ some k_ ≠ (v356 : Value).ownBlock ∧ some k_ ≠ (.slice Ao42 t348.length co42 : Value).ownBlock ∧ some k_ ≠ (.slice Ao45 t351.length co45 : Value).ownBlock ∧ k_ ≠ gb344 ∧ k_ ≠ gb354)) (zV (Kd.V_mono HO_11.out (fun _ hk => ⟨⟨hk.1, ⟨hk.2.1, ⟨hk.2.2.2.1, ⟨hk.2.2.2.2.1, ⟨hk.2.2.2.2.2.1, hk.2.2.2.2.2.2⟩⟩⟩⟩⟩, hk.2.2.1⟩))) hg (.inl rfl)); have n2_ := Aside0.mk (hp_); have n3_ := Aside0.mk (Kd.V_afterv (v := (.slice (some ⟨go55, 0, none⟩) x12_2.length co55)) (v1 := (.slice (some ⟨go55, 0, none⟩) x12_2.length co55)) (ok := (fun k_ => ((P0_0_ k_ ∨ P0_1_ k_) ∨ w.heap.size ≤ k_) ∧ some k_ ≠ (v356 : Value).ownBlock ∧ some k_ ≠ (.slice Ao42 t348.length co42 : Value).ownBlock ∧ some k_ ≠ (.slice Ao45 t351.length co45 : Value).ownBlock ∧ k_ ≠ gb344 ∧ k_ ≠ gb354)) (zV (Kd.V_mono HO_345000.out (fun _ hk => ⟨⟨hk.1, ⟨hk.2.1, ⟨hk.2.2.2.1, ⟨hk.2.2.2.2.1, ⟨hk.2.2.2.2.2.1, hk.2.2.2.2.2.2⟩⟩⟩⟩⟩, hk.2.2.1⟩))) hg (.inl rfl)); have n4_ := Aside0.mk (Kd.V_afterv (v := (.slice (some ⟨go55, 0, none⟩) x12_2.length co55)) (v1 := (.slice (some ⟨go55, 0, none⟩) x12_2.length co55)) (ok := (fun k_ => ((P0_0_ k_ ∨ P0_1_ k_) ∨ w.heap.size ≤ k_) ∧ some k_ ≠ (v356 : Value).ownBlock ∧ some k_ ≠ (.slice Ao42 t348.length co42 : Value).ownBlock ∧ some k_ ≠ (.slice Ao45 t351.length co45 : Value).ownBlock ∧ k_ ≠ gb344 ∧ k_ ≠ gb354)) (zV (Kd.V_mono HO_345001.out (fun _ hk => ⟨⟨hk.1, ⟨hk.2.1, ⟨hk.2.2.2.1, ⟨hk.2.2.2.2.1, ⟨hk.2.2.2.2.2.1, hk.2.2.2.2.2.2⟩⟩⟩⟩⟩, hk.2.2.1⟩))) hg (.inl rfl)); have n5_ := Aside0.mk (Kd.N_afterv (v := (.slice (some ⟨go55, 0, none⟩) x12_2.length co55)) (v1 := (.slice (some ⟨go55, 0, none⟩) x12_2.length co55)) (ok := (fun k_ => ((P0_0_ k_ ∨ P0_1_ k_) ∨ w.heap.size ≤ k_) ∧ some k_ ≠ (v356 : Value).ownBlock ∧ some k_ ≠ (.slice Ao45 t351.length co45 : Value).ownBlock ∧ k_ ≠ gb344 ∧ k_ ≠ gb354)) (zN (Kd.N_mono HO_355000.out (fun _ hk => ⟨⟨hk.1, ⟨hk.2.1, ⟨hk.2.2.2.1, ⟨hk.2.2.2.2.1, hk.2.2.2.2.2⟩⟩⟩⟩, hk.2.2.1⟩))) hg (.inl rfl)); have n6_ := Aside0.mk (Kd.N_afterv (v := (.slice (some ⟨go55, 0, none⟩) x12_2.length co55)) (v1 := (.slice (some ⟨go55, 0, none⟩) x12_2.length co55)) (ok := (fun k_ => ((P0_0_ k_ ∨ P0_1_ k_) ∨ w.heap.size ≤ k_) ∧ some k_ ≠ (v356 : Value).ownBlock ∧ some k_ ≠ (.slice Ao42 t348.length co42 : Value).ownBlock ∧ k_ ≠ gb344 ∧ k_ ≠ gb354)) (zN (Kd.N_mono HO_355001.out (fun _ hk => ⟨⟨hk.1, ⟨hk.2.1, ⟨hk.2.2.2.1, ⟨hk.2.2.2.2.1, hk.2.2.2.2.2⟩⟩⟩⟩, hk.2.2.1⟩))) hg (.inl rfl)); have n7_ := Aside0.mk (blk_grown (g := gb344) (o := .cells #[.slice (some ad359) l0_0.length c0_0, .slice A0_1 l0_1.length c0_1] 25 (0, 0)) (zB BK344.out) hg (Kd.R_ne HO_12.out BK344.out (by decide))); have n8_ := Aside0.mk (blk_grown (g := gb354) (o := .cells #[.slice Ao42 t348.length co42, .slice Ao45 t351.length co45] 25 (0, 0)) (zB BK354.out) hg (Kd.R_ne HO_12.out BK354.out (by decide))); have n9_ := Aside0.mk ((by rw [hw]; exact pS (HB.out) GB55.out : Below w.heap.size w w78)); clear HO_9; clear HO_11; clear HO_12; clear HO_345000; clear HO_345001; clear HO_355000; clear HO_355001; clear BK344; clear BK354; clear HB; have HO_9 := n0_; have HO_11 := n1_; have HO_12 := n2_; have HO_345000 := n3_; have HO_345001 := n4_; have HO_355000 := n5_; have HO_355001 := n6_; have BK344 := n7_; have BK354 := n8_; have HB := n9_; clear n0_ n1_ n2_ n3_ n4_ n5_ n6_ n7_ n8_ n9_; clear hg hw hp_; have hcz79_0 : w78.cell? ⟨gb344, 0, none⟩ = some (.slice (some ad359) l0_0.length c0_0) := (blk_cell BK344.out 0).trans rfl; have hcz79_1 : w78.cell? ⟨gb344, 1, none⟩ = some (.slice A0_1 l0_1.length c0_1) := (blk_cell BK344.out 1).trans rfl; have hfz79_0 := blk_frozen BK344.out 0; have hfz79_1 := blk_frozen BK344.out 1; have p364 : 0 ≤ (x13_2 : Int) := of_decide_eq_true (by first | (with_reducible assumption) | assumption); have q364 : x13_2 < (l0_1.length : Int) := of_decide_eq_true (by first | (with_reducible assumption) | assumption); obtain ⟨ad364, A364_1, c364_1, e364, hx364_0, hx364_1, hl364_1, hi364_1⟩ := at_T47 (Kd.V_reads' HO_345001.out).2.2 x13_2 p364 q364; cases e364; obtain ⟨ce364, hce364, hMe364, hcc364⟩ := Kd.V_get HO_345001.out z47 x13_2 p364 (by first | exact q364 | exact of_decide_eq_true (by first | (with_reducible assumption) | assumption) | (have e_ := (Kd.V_reads' HO_345001.out).1; omega)); obtain ⟨ua364_1, uc364_1, rfl, ul364_1, ge364_1⟩ := k47_openF hMe364; have hv364_1 := hcc364 1 _ rfl; rw [add_field _ _ 1 (by omega)] at hv364_1; replace hv364_1 := Option.some.inj (hv364_1.symm.trans hx364_1); injection hv364_1 with hva_ hvn_ hvc_; rw [hva_] at ge364_1; rw [hvc_] at ul364_1; have HL364_1 := Aside0.mk (show Kd.V (Kd.int .u8) 5 _ w.heap.size _ _ ((rd_T47 l0_1 x13_2).f1) from Kd.V_mk ul364_1 ge364_1); clear hva_ hvn_ hvc_ ge364_1 ul364_1; clear hcc364 hce364; have HR364_1 := Aside0.mk hi364_1; have HC364_1 := Aside0.mk hl364_1; clear hi364_1 hl364_1; replace p364 := eq_true p364; replace q364 := eq_true q364))
              go_roundg k2
              case measure => have := HJ4.out; have := HK2.out; omega
              case rel => exact ⟨(x11_2), (y363), (wrap64 (x13_2 + 1)), (by first | rfl | (simp; done) | (simp [*]; done)), H', ⟨by have := HJ4.out; have := HK2.out; omega⟩, ⟨zR HO_9.out⟩, ⟨zV (Kd.V_mono HO_11.out (fun _ hk => ⟨hk.1.1, ⟨hk.1.2.1, ⟨hk.2, ⟨hk.1.2.2.1, ⟨hk.1.2.2.2.1, ⟨hk.1.2.2.2.2.1, hk.1.2.2.2.2.2⟩⟩⟩⟩⟩⟩))⟩, ⟨zR HO_12.out⟩, ⟨zV (Kd.V_mono HO_345000.out (fun _ hk => ⟨hk.1.1, ⟨hk.1.2.1, ⟨hk.2, ⟨hk.1.2.2.1, ⟨hk.1.2.2.2.1, ⟨hk.1.2.2.2.2.1, hk.1.2.2.2.2.2⟩⟩⟩⟩⟩⟩))⟩, ⟨zV (Kd.V_mono HO_345001.out (fun _ hk => ⟨hk.1.1, ⟨hk.1.2.1, ⟨hk.2, ⟨hk.1.2.2.1, ⟨hk.1.2.2.2.1, ⟨hk.1.2.2.2.2.1, hk.1.2.2.2.2.2⟩⟩⟩⟩⟩⟩))⟩, ⟨zN (Kd.N_mono HO_355000.out (fun _ hk => ⟨hk.1.1, ⟨hk.1.2.1, ⟨hk.2, ⟨hk.1.2.2.1, ⟨hk.1.2.2.2.1, hk.1.2.2.2.2⟩⟩⟩⟩⟩))⟩, ⟨zN (Kd.N_mono HO_355001.out (fun _ hk => ⟨hk.1.1, ⟨hk.1.2.1, ⟨hk.2, ⟨hk.1.2.2.1, ⟨hk.1.2.2.2.1, hk.1.2.2.2.2⟩⟩⟩⟩⟩))⟩, ⟨zB BK344.out⟩, ⟨zB BK354.out⟩, ⟨by repeat (first | (with_reducible first | exact HB.out | apply pA | apply pN | apply pD | refine pS ?_ GE344.out | refine pS ?_ GE354.out) | exact HB.out)⟩⟩
            ·rw [if_neg c54] at H
             exact absurd H (by simp)
           ·rw [if_neg c53] at H
            exact absurd H (by simp)
          ·rw [if_neg c52] at H
           have c52b0 : decide (x13_2 < (l0_1.length : Int)) = false := decide_eq_false c52
           clear c52
           replace H := Option.bind_eq_some_iff.mp H
           obtain ⟨⟨t367, t370⟩, A800, H⟩ := H
           replace H : (if t358 = 0 then ((portreeveref01_Row.f k2 t355 x11_2).bind fun t374 => (if t374 = true then (if (t351.length : Int) = 0 then ((disk_Crash.f k2 l0_0 l0_1 x12_2).bind fun bt375 => ((portreeveref03_Same.f k2 bt375.1 bt375.2 t367 t370).bind fun t381 => (portreevelaw03_DiskCrashes.j2 k2 l2 t345 (!t381) t367 t370))) else (portreevelaw03_DiskCrashes.j2 k2 l2 t345 true t367 t370)) else (portreevelaw03_DiskCrashes.j2 k2 l2 t345 true t367 t370))) else (portreevelaw03_DiskCrashes.j2 k2 l2 t345 true t367 t370)) = some r := H
           have A80 := Aside0.mk A800
           clear A800
           have HC81 := Aside0.mk H
           clear H
           have hnb82 := NB344_354.out
           have hnc82 := NB354_344.out
           have hcz83_0 : wr.cell? ⟨gb344, 0, none⟩ = some (.slice (some ad359) l0_0.length c0_0) := (blk_cell BK344.out 0).trans rfl
           have hcz83_1 : wr.cell? ⟨gb344, 1, none⟩ = some (.slice A0_1 l0_1.length c0_1) := (blk_cell BK344.out 1).trans rfl
           have hfz83_0 := blk_frozen BK344.out 0
           have hfz83_1 := blk_frozen BK344.out 1
           go_upto_region 15 with (first | ((with_reducible refine gate_callee (f := 18) rfl ?_); refine goesL_ (some 93) rfl rfl Try.func18 (by kernel_rfl) rfl #[.agg #[.slice (some ad359) l0_0.length c0_0, .slice A0_1 l0_1.length c0_1]] rfl (by (try simp only [List.map_toArray, List.map_cons, List.map_nil]); first | done | rfl | (simp only [List.length_drop, List.length_take]; rfl)) ?_; (with_reducible refine (disk_Flush.calls k2 (fun k_ => (((P0_0_ k_ ∨ P0_1_ k_) ∨ w.heap.size ≤ k_) ∧ (some k_ ≠ (v356 : Value).ownBlock ∧ (some k_ ≠ (v361 : Value).ownBlock ∧ (some k_ ≠ (.slice Ao42 t348.length co42 : Value).ownBlock ∧ (some k_ ≠ (.slice Ao45 t351.length co45 : Value).ownBlock ∧ (k_ ≠ gb344 ∧ k_ ≠ gb354))))))) _ _ l0_0 _ _ l0_1 t367 t370 _ ?side1 ?side2 ?side3 A80.out).mono ?_); (case side1 => exact HO_345000.out); (case side2 => repeat (first | exact (Kd.V_reads' HO_345001.out).2.2 | (with_reducible refine Kd.C_alloc ?_ _) | (with_reducible refine Kd.C_drewN ?_ _) | (with_reducible refine Kd.C_drew ?_))); (case side3 => exact (Kd.V_reads' HO_345001.out).2.1); rintro e w84 ⟨v368, v371, rfl, ho0, ho1, hb⟩; refine ⟨_, rfl, ?_⟩; have n0_ := Aside0.mk (Kd.R_below (zR HO_9.out) hb); have n1_ := Aside0.mk (Kd.V_mono (Kd.V_told (Kd.V_told (Kd.V_old (zV HO_11.out) hb) (Kd.N_base ho0)) (Kd.N_base ho1)) (fun _ h_ => h_.1)); have n2_ := Aside0.mk (Kd.R_below (zR HO_12.out) hb); have n3_ := Aside0.mk (Kd.V_mono (Kd.V_told (Kd.V_told (Kd.V_old (zV HO_345000.out) hb) (Kd.N_base ho0)) (Kd.N_base ho1)) (fun _ h_ => h_.1)); have n4_ := Aside0.mk (Kd.V_mono (Kd.V_told (Kd.V_told (Kd.V_old (zV HO_345001.out) hb) (Kd.N_base ho0)) (Kd.N_base ho1)) (fun _ h_ => h_.1)); have n5_ := Aside0.mk (Kd.N_mono (Kd.N_told (Kd.N_told (Kd.N_old (zN HO_355000.out) hb) (Kd.N_base ho0)) (Kd.N_base ho1)) (fun _ h_ => h_.1)); have n6_ := Aside0.mk (Kd.N_mono (Kd.N_told (Kd.N_told (Kd.N_old (zN HO_355001.out) hb) (Kd.N_base ho0)) (Kd.N_base ho1)) (fun _ h_ => h_.1)); have n7_ := Aside0.mk (Kd.N_lower (Kd.N_mono (ok' := fun k_ => ((P0_0_ k_ ∨ P0_1_ k_) ∨ w.heap.size ≤ k_) ∧ some k_ ≠ (v371 : Value).ownBlock ∧ some k_ ≠ (v356 : Value).ownBlock ∧ some k_ ≠ (v361 : Value).ownBlock ∧ some k_ ≠ (.slice Ao42 t348.length co42 : Value).ownBlock ∧ some k_ ≠ (.slice Ao45 t351.length co45 : Value).ownBlock ∧ k_ ≠ gb344 ∧ k_ ≠ gb354) ho0 (fun k_ hk_ => ⟨Or.elim hk_.1 (fun hs_ => hs_.1) (fun hn_ => (.inr (Nat.le_trans (below_size (by repeat (first | (with_reducible first | exact HB.out | apply pA | apply pN | apply pD | refine pS ?_ GE344.out | refine pS ?_ GE354.out) | exact HB.out))) hn_))), hk_.2, Or.elim hk_.1 (fun hs_ => hs_.2.1) (fun hn_ => (Kd.fresh' (Kd.R_lt (zR HO_9.out)) k_ hn_)), Or.elim hk_.1 (fun hs_ => hs_.2.2.1) (fun hn_ => (Kd.fresh' (Kd.R_lt (zR HO_12.out)) k_ hn_)), Or.elim hk_.1 (fun hs_ => hs_.2.2.2.1) (fun hn_ => (Kd.fresh' (Kd.N_lt (zN HO_355000.out)) k_ hn_)), Or.elim hk_.1 (fun hs_ => hs_.2.2.2.2.1) (fun hn_ => (Kd.fresh' (Kd.N_lt (zN HO_355001.out)) k_ hn_)), Or.elim hk_.1 (fun hs_ => hs_.2.2.2.2.2.1) (fun hn_ => (Kd.freshB (g := gb344) (o := .cells #[.slice (some ad359) l0_0.length c0_0, .slice A0_1 l0_1.length c0_1] 25 (0, 0)) (zB BK344.out) k_ hn_)), Or.elim hk_.1 (fun hs_ => hs_.2.2.2.2.2.2) (fun hn_ => (Kd.freshB (g := gb354) (o := .cells #[.slice Ao42 t348.length co42, .slice Ao45 t351.length co45] 25 (0, 0)) (zB BK354.out) k_ hn_))⟩)) (below_size (by repeat (first | (with_reducible first | exact HB.out | apply pA | apply pN | apply pD | refine pS ?_ GE344.out | refine pS ?_ GE354.out) | exact HB.out)))); have n8_ := Aside0.mk (Kd.N_lower (Kd.N_mono (ok' := fun k_ => ((P0_0_ k_ ∨ P0_1_ k_) ∨ w.heap.size ≤ k_) ∧ some k_ ≠ (v368 : Value).ownBlock ∧ some k_ ≠ (v356 : Value).ownBlock ∧ some k_ ≠ (v361 : Value).ownBlock ∧ some k_ ≠ (.slice Ao42 t348.length co42 : Value).ownBlock ∧ some k_ ≠ (.slice Ao45 t351.length co45 : Value).ownBlock ∧ k_ ≠ gb344 ∧ k_ ≠ gb354) ho1 (fun k_ hk_ => ⟨Or.elim hk_.1 (fun hs_ => hs_.1) (fun hn_ => (.inr (Nat.le_trans (below_size (by repeat (first | (with_reducible first | exact HB.out | apply pA | apply pN | apply pD | refine pS ?_ GE344.out | refine pS ?_ GE354.out) | exact HB.out))) hn_))), hk_.2, Or.elim hk_.1 (fun hs_ => hs_.2.1) (fun hn_ => (Kd.fresh' (Kd.R_lt (zR HO_9.out)) k_ hn_)), Or.elim hk_.1 (fun hs_ => hs_.2.2.1) (fun hn_ => (Kd.fresh' (Kd.R_lt (zR HO_12.out)) k_ hn_)), Or.elim hk_.1 (fun hs_ => hs_.2.2.2.1) (fun hn_ => (Kd.fresh' (Kd.N_lt (zN HO_355000.out)) k_ hn_)), Or.elim hk_.1 (fun hs_ => hs_.2.2.2.2.1) (fun hn_ => (Kd.fresh' (Kd.N_lt (zN HO_355001.out)) k_ hn_)), Or.elim hk_.1 (fun hs_ => hs_.2.2.2.2.2.1) (fun hn_ => (Kd.freshB (g := gb344) (o := .cells #[.slice (some ad359) l0_0.length c0_0, .slice A0_1 l0_1.length c0_1] 25 (0, 0)) (zB BK344.out) k_ hn_)), Or.elim hk_.1 (fun hs_ => hs_.2.2.2.2.2.2) (fun hn_ => (Kd.freshB (g := gb354) (o := .cells #[.slice Ao42 t348.length co42, .slice Ao45 t351.length co45] 25 (0, 0)) (zB BK354.out) k_ hn_))⟩)) (below_size (by repeat (first | (with_reducible first | exact HB.out | apply pA | apply pN | apply pD | refine pS ?_ GE344.out | refine pS ?_ GE354.out) | exact HB.out)))); have n9_ := Aside0.mk (blk_below (g := gb344) (o := .cells #[.slice (some ad359) l0_0.length c0_0, .slice A0_1 l0_1.length c0_1] 25 (0, 0)) (zB BK344.out) hb); have n10_ := Aside0.mk (blk_below (g := gb354) (o := .cells #[.slice Ao42 t348.length co42, .slice Ao45 t351.length co45] 25 (0, 0)) (zB BK354.out) hb); have n11_ := Aside0.mk (below_step (by repeat (first | (with_reducible first | exact HB.out | apply pA | apply pN | apply pD | refine pS ?_ GE344.out | refine pS ?_ GE354.out) | exact HB.out)) hb); clear HO_9; clear HO_11; clear HO_12; clear HO_345000; clear HO_345001; clear HO_355000; clear HO_355001; clear BK344; clear BK354; clear HB; have HO_9 := n0_; have HO_11 := n1_; have HO_12 := n2_; have HO_345000 := n3_; have HO_345001 := n4_; have HO_355000 := n5_; have HO_355001 := n6_; have HO369 := n7_; have HO372 := n8_; have BK344 := n9_; have BK354 := n10_; have HB := n11_; clear n0_ n1_ n2_ n3_ n4_ n5_ n6_ n7_ n8_ n9_ n10_ n11_; (try clear hb); (try clear hb2); (try clear hk); (try clear hi); (try clear ho0); (try clear ho1)) | ((with_reducible refine gate_dst (N := 14) rfl ?_); (try (refine gate_guard (by rfl) ?_; dsimp only)); refine box_event ?hg (N := 14) ?hd (cs := #[.slice none 0 0, .slice none 0 0]) (t := 25) ?hr ?_; (case hd => rfl); (case hg => rfl); (case hr => first | (go_simp; done) | (go_simp; rfl)); intro gb373 hg w85 hbox hb; have n0_ := Aside0.mk (Kd.R_below (zR HO_9.out) hb); have n1_ := Aside0.mk (Kd.V_below (Kd.V_elderB (zV HO_11.out) gb373 (Nat.le_of_eq hg.symm)) hb); have n2_ := Aside0.mk (Kd.R_below (zR HO_12.out) hb); have n3_ := Aside0.mk (Kd.V_below (Kd.V_elderB (zV HO_345000.out) gb373 (Nat.le_of_eq hg.symm)) hb); have n4_ := Aside0.mk (Kd.V_below (Kd.V_elderB (zV HO_345001.out) gb373 (Nat.le_of_eq hg.symm)) hb); have n5_ := Aside0.mk (Kd.N_below (Kd.N_elderB (zN HO_355000.out) gb373 (Nat.le_of_eq hg.symm)) hb); have n6_ := Aside0.mk (Kd.N_below (Kd.N_elderB (zN HO_355001.out) gb373 (Nat.le_of_eq hg.symm)) hb); have n7_ := Aside0.mk (Kd.N_below (Kd.N_elderB (zN HO369.out) gb373 (Nat.le_of_eq hg.symm)) hb); have n8_ := Aside0.mk (Kd.N_below (Kd.N_elderB (zN HO372.out) gb373 (Nat.le_of_eq hg.symm)) hb); have n9_ := Aside0.mk (blk_below (g := gb344) (o := .cells #[.slice (some ad359) l0_0.length c0_0, .slice A0_1 l0_1.length c0_1] 25 (0, 0)) (zB BK344.out) hb); have n10_ := Aside0.mk (blk_below (g := gb354) (o := .cells #[.slice Ao42 t348.length co42, .slice Ao45 t351.length co45] 25 (0, 0)) (zB BK354.out) hb); have n11_ := Aside0.mk (below_step (by repeat (first | (with_reducible first | exact HB.out | apply pA | apply pN | apply pD | refine pS ?_ GE344.out | refine pS ?_ GE354.out) | exact HB.out)) hb); have n12_ := Aside0.mk (hbox); have n13_ := Aside0.mk ((by rw [hg]; exact (below_size (by repeat (first | (with_reducible first | exact HB.out | apply pA | apply pN | apply pD | refine pS ?_ GE344.out | refine pS ?_ GE354.out) | exact HB.out))) : w.heap.size ≤ gb373)); have n14_ := Aside0.mk ((by rw [hg]; exact (below_size (by repeat (first | (with_reducible first | exact HB.out | apply pA | apply pN | apply pD | refine pS ?_ GE344.out | refine pS ?_ GE354.out) | exact HB.out))) : w.heap.size ≤ gb373)); have n15_ := Aside0.mk ((by rw [hg]; exact Nat.ne_of_lt (blk_lt (g := gb344) (o := .cells #[.slice (some ad359) l0_0.length c0_0, .slice A0_1 l0_1.length c0_1] 25 (0, 0)) (zB BK344.out)) : gb344 ≠ gb373)); have n16_ := Aside0.mk ((by rw [hg]; exact Nat.ne_of_gt (blk_lt (g := gb344) (o := .cells #[.slice (some ad359) l0_0.length c0_0, .slice A0_1 l0_1.length c0_1] 25 (0, 0)) (zB BK344.out)) : gb373 ≠ gb344)); have n17_ := Aside0.mk ((by rw [hg]; exact Nat.ne_of_lt (blk_lt (g := gb354) (o := .cells #[.slice Ao42 t348.length co42, .slice Ao45 t351.length co45] 25 (0, 0)) (zB BK354.out)) : gb354 ≠ gb373)); have n18_ := Aside0.mk ((by rw [hg]; exact Nat.ne_of_gt (blk_lt (g := gb354) (o := .cells #[.slice Ao42 t348.length co42, .slice Ao45 t351.length co45] 25 (0, 0)) (zB BK354.out)) : gb373 ≠ gb354)); clear HO_9; clear HO_11; clear HO_12; clear HO_345000; clear HO_345001; clear HO_355000; clear HO_355001; clear HO369; clear HO372; clear BK344; clear BK354; clear HB; have HO_9 := n0_; have HO_11 := n1_; have HO_12 := n2_; have HO_345000 := n3_; have HO_345001 := n4_; have HO_355000 := n5_; have HO_355001 := n6_; have HO369 := n7_; have HO372 := n8_; have BK344 := n9_; have BK354 := n10_; have HB := n11_; have BK373 := n12_; have GW373 := n13_; have GE373 := n14_; have NB344_373 := n15_; have NB373_344 := n16_; have NB354_373 := n17_; have NB373_354 := n18_; clear n0_ n1_ n2_ n3_ n4_ n5_ n6_ n7_ n8_ n9_ n10_ n11_ n12_ n13_ n14_ n15_ n16_ n17_ n18_; clear hb hbox hg; obtain ⟨Ao86, co86, eo86⟩ := Kd.N_slice HO369.out; subst eo86; have hnb87 := NB373_344.out; have hnc87 := NB344_373.out; have hnb88 := NB373_354.out; have hnc88 := NB354_373.out; have hcz89_0 : w85.cell? ⟨gb373, 0, none⟩ = some (.slice none 0 0) := (blk_cell BK373.out 0).trans rfl; have hcz89_1 : w85.cell? ⟨gb373, 1, none⟩ = some (.slice none 0 0) := (blk_cell BK373.out 1).trans rfl; have hfz89_0 := blk_frozen BK373.out 0; have hfz89_1 := blk_frozen BK373.out 1; obtain ⟨Ao90, co90, eo90⟩ := Kd.N_slice HO372.out; subst eo90))
           (try simp only [Act.put, sT, s0, s1])
           go_cut [115] (fun v115 wc => ∃ (kq : Nat) (x115_80 : Bool), v115 = .bool x115_80 ∧ Aside0 (portreevelaw03_DiskCrashes.j2 kq l2 t345 x115_80 t367 t370 = some r) ∧ Aside0 (kq ≤ k2) ∧ Aside0 (Kd.V (Kd.slice 5 (Kd.int .u8)) 26 wc w.heap.size (fun k_ => ((P0_0_ k_ ∨ P0_1_ k_) ∨ w.heap.size ≤ k_) ∧ some k_ ≠ ((.slice Ao42 t348.length co42) : Value).ownBlock ∧ some k_ ≠ ((.slice Ao45 t351.length co45) : Value).ownBlock ∧ some k_ ≠ ((.slice Ao86 t367.length co86) : Value).ownBlock ∧ some k_ ≠ ((.slice Ao90 t370.length co90) : Value).ownBlock ∧ k_ ≠ gb344 ∧ k_ ≠ gb354 ∧ k_ ≠ gb373) (.slice (some ad359) l0_0.length c0_0) l0_0) ∧ Aside0 (Kd.V k47 47 wc w.heap.size (fun k_ => ((P0_0_ k_ ∨ P0_1_ k_) ∨ w.heap.size ≤ k_) ∧ some k_ ≠ ((.slice Ao42 t348.length co42) : Value).ownBlock ∧ some k_ ≠ ((.slice Ao45 t351.length co45) : Value).ownBlock ∧ some k_ ≠ ((.slice Ao86 t367.length co86) : Value).ownBlock ∧ some k_ ≠ ((.slice Ao90 t370.length co90) : Value).ownBlock ∧ k_ ≠ gb344 ∧ k_ ≠ gb354 ∧ k_ ≠ gb373) (.slice A0_1 l0_1.length c0_1) l0_1) ∧ Aside0 (Kd.N (Kd.slice 5 (Kd.int .u8)) 26 wc w.heap.size (fun k_ => ((P0_0_ k_ ∨ P0_1_ k_) ∨ w.heap.size ≤ k_) ∧ some k_ ≠ ((.slice Ao45 t351.length co45) : Value).ownBlock ∧ some k_ ≠ ((.slice Ao86 t367.length co86) : Value).ownBlock ∧ some k_ ≠ ((.slice Ao90 t370.length co90) : Value).ownBlock ∧ k_ ≠ gb344 ∧ k_ ≠ gb354 ∧ k_ ≠ gb373) (.slice Ao42 t348.length co42) t348) ∧ Aside0 (Kd.N k47 47 wc w.heap.size (fun k_ => ((P0_0_ k_ ∨ P0_1_ k_) ∨ w.heap.size ≤ k_) ∧ some k_ ≠ ((.slice Ao42 t348.length co42) : Value).ownBlock ∧ some k_ ≠ ((.slice Ao86 t367.length co86) : Value).ownBlock ∧ some k_ ≠ ((.slice Ao90 t370.length co90) : Value).ownBlock ∧ k_ ≠ gb344 ∧ k_ ≠ gb354 ∧ k_ ≠ gb373) (.slice Ao45 t351.length co45) t351) ∧ Aside0 (Kd.N (Kd.slice 5 (Kd.int .u8)) 26 wc w.heap.size (fun k_ => ((P0_0_ k_ ∨ P0_1_ k_) ∨ w.heap.size ≤ k_) ∧ some k_ ≠ ((.slice Ao42 t348.length co42) : Value).ownBlock ∧ some k_ ≠ ((.slice Ao45 t351.length co45) : Value).ownBlock ∧ some k_ ≠ ((.slice Ao90 t370.length co90) : Value).ownBlock ∧ k_ ≠ gb344 ∧ k_ ≠ gb354 ∧ k_ ≠ gb373) (.slice Ao86 t367.length co86) t367) ∧ Aside0 (Kd.N k47 47 wc w.heap.size (fun k_ => ((P0_0_ k_ ∨ P0_1_ k_) ∨ w.heap.size ≤ k_) ∧ some k_ ≠ ((.slice Ao42 t348.length co42) : Value).ownBlock ∧ some k_ ≠ ((.slice Ao45 t351.length co45) : Value).ownBlock ∧ some k_ ≠ ((.slice Ao86 t367.length co86) : Value).ownBlock ∧ k_ ≠ gb344 ∧ k_ ≠ gb354 ∧ k_ ≠ gb373) (.slice Ao90 t370.length co90) t370) ∧ Aside0 (wc.heap[gb344]? = some (.cells #[(.slice (some ad359) l0_0.length c0_0), (.slice A0_1 l0_1.length c0_1)] 25 (0, 0))) ∧ Aside0 (wc.heap[gb354]? = some (.cells #[(.slice Ao42 t348.length co42), (.slice Ao45 t351.length co45)] 25 (0, 0))) ∧ Aside0 (wc.heap[gb373]? = some (.cells #[(.slice Ao86 t367.length co86), (.slice Ao90 t370.length co90)] 25 (0, 0))) ∧ Aside0 (Below w.heap.size w wc))
           case first =>
            have H := HC81.out
            clear HC81
            by_cases c91 : t358 = 0
            ·rw [if_pos c91] at H
             have c91b0 : (t358 == 0) = true := beq_iff_eq.mpr c91
             have c91b1 : (t358 != 0) = false := bne_eq_false_iff_eq.mpr c91
             clear c91
             (first | rw [c91b0] | (simp only [i64_w, i32_w]; rw [c91b0]) | skip)
             replace H := Option.bind_eq_some_iff.mp H
             obtain ⟨t374, A920, H⟩ := H
             replace H : (if t374 = true then (if (t351.length : Int) = 0 then ((disk_Crash.f k2 l0_0 l0_1 x12_2).bind fun bt375 => ((portreeveref03_Same.f k2 bt375.1 bt375.2 t367 t370).bind fun t381 => (portreevelaw03_DiskCrashes.j2 k2 l2 t345 (!t381) t367 t370))) else (portreevelaw03_DiskCrashes.j2 k2 l2 t345 true t367 t370)) else (portreevelaw03_DiskCrashes.j2 k2 l2 t345 true t367 t370)) = some r := H
             have A92 := Aside0.mk A920
             clear A920
             by_cases c93 : t374 = true
             ·subst c93
              have H1 : (if (t351.length : Int) = 0 then ((disk_Crash.f k2 l0_0 l0_1 x12_2).bind fun bt375 => ((portreeveref03_Same.f k2 bt375.1 bt375.2 t367 t370).bind fun t381 => (portreevelaw03_DiskCrashes.j2 k2 l2 t345 (!t381) t367 t370))) else (portreevelaw03_DiskCrashes.j2 k2 l2 t345 true t367 t370)) = some r := by rw [if_pos rfl] at H; exact H
              clear H
              have H := H1
              clear H1
              by_cases c94 : (t351.length : Int) = 0
              ·rw [if_pos c94] at H
               have c94b0 : ((t351.length : Int) == 0) = true := beq_iff_eq.mpr c94
               have c94b1 : ((t351.length : Int) != 0) = false := bne_eq_false_iff_eq.mpr c94
               clear c94
               replace H := Option.bind_eq_some_iff.mp H
               obtain ⟨⟨t375, t378⟩, A950, H⟩ := H
               replace H : ((portreeveref03_Same.f k2 t375 t378 t367 t370).bind fun t381 => (portreevelaw03_DiskCrashes.j2 k2 l2 t345 (!t381) t367 t370)) = some r := H
               have A95 := Aside0.mk A950
               clear A950
               replace H := Option.bind_eq_some_iff.mp H
               obtain ⟨t381, A960, H⟩ := H
               replace H : (portreevelaw03_DiskCrashes.j2 k2 l2 t345 (!t381) t367 t370) = some r := H
               have A96 := Aside0.mk A960
               clear A960
               have H' := Aside0.mk H
               clear H
               try go_wp2
               have n0_ : Aside0 (Kd.R (Kd.int .u8) 5 ((w85.setCell ⟨gb373, 0, none⟩ (.slice Ao86 t367.length co86)).setCell ⟨gb373, 1, none⟩ (.slice Ao90 t370.length co90)) w.heap.size (fun k_ => (w.heap.size ≤ k_)) v356 t355) := ⟨zR (Kd.R_mono (Kd.R_far (p := ⟨gb373, 1, none⟩) (Kd.R_far (p := ⟨gb373, 0, none⟩) (Kd.R_types HO_9.out BK373.out (by decide)) (fun _ hk => hk.2) (.slice Ao86 t367.length co86)) (fun _ hk => hk.2) (.slice Ao90 t370.length co90)) (fun _ hk => hk.1))⟩
               have n1_ : Aside0 (Kd.V (Kd.int .u8) 5 ((w85.setCell ⟨gb373, 0, none⟩ (.slice Ao86 t367.length co86)).setCell ⟨gb373, 1, none⟩ (.slice Ao90 t370.length co90)) w.heap.size (fun k_ => ((P0_0_ k_ ∨ P0_1_ k_) ∨ w.heap.size ≤ k_) ∧ some k_ ≠ (v356 : Value).ownBlock ∧ some k_ ≠ (v361 : Value).ownBlock ∧ some k_ ≠ (.slice Ao42 t348.length co42 : Value).ownBlock ∧ some k_ ≠ (.slice Ao45 t351.length co45 : Value).ownBlock ∧ some k_ ≠ (.slice Ao86 t367.length co86 : Value).ownBlock ∧ some k_ ≠ (.slice Ao90 t370.length co90 : Value).ownBlock ∧ k_ ≠ gb344 ∧ k_ ≠ gb354 ∧ k_ ≠ gb373) u11 x11_2) := ⟨zV (Kd.V_mono (Kd.V_far (p := ⟨gb373, 1, none⟩) (Kd.V_far (p := ⟨gb373, 0, none⟩) (Kd.V_mono HO_11.out (fun k_ hk => (⟨hk, hk.2⟩ : _ ∧ k_ ≠ gb373))) (fun _ hk => hk.2) (.slice Ao86 t367.length co86)) (fun _ hk => hk.2) (.slice Ao90 t370.length co90)) (fun _ hk => ⟨hk.1.1.1.1.1, ⟨hk.1.1.1.1.2.1, ⟨hk.1.1.1.1.2.2.1, ⟨hk.1.1.1.1.2.2.2.1, ⟨hk.1.1.1.1.2.2.2.2.1, ⟨hk.1.1.1.2, ⟨hk.1.1.2, ⟨hk.1.1.1.1.2.2.2.2.2.1, ⟨hk.1.1.1.1.2.2.2.2.2.2, hk.1.2⟩⟩⟩⟩⟩⟩⟩⟩⟩))⟩
               have n2_ : Aside0 (Kd.R Kd.bool 4 ((w85.setCell ⟨gb373, 0, none⟩ (.slice Ao86 t367.length co86)).setCell ⟨gb373, 1, none⟩ (.slice Ao90 t370.length co90)) w.heap.size (fun k_ => (w.heap.size ≤ k_)) v361 x12_2) := ⟨zR (Kd.R_mono (Kd.R_far (p := ⟨gb373, 1, none⟩) (Kd.R_far (p := ⟨gb373, 0, none⟩) (Kd.R_types HO_12.out BK373.out (by decide)) (fun _ hk => hk.2) (.slice Ao86 t367.length co86)) (fun _ hk => hk.2) (.slice Ao90 t370.length co90)) (fun _ hk => hk.1))⟩
               have n3_ : Aside0 (Kd.V (Kd.slice 5 (Kd.int .u8)) 26 ((w85.setCell ⟨gb373, 0, none⟩ (.slice Ao86 t367.length co86)).setCell ⟨gb373, 1, none⟩ (.slice Ao90 t370.length co90)) w.heap.size (fun k_ => ((P0_0_ k_ ∨ P0_1_ k_) ∨ w.heap.size ≤ k_) ∧ some k_ ≠ (v356 : Value).ownBlock ∧ some k_ ≠ (v361 : Value).ownBlock ∧ some k_ ≠ (.slice Ao42 t348.length co42 : Value).ownBlock ∧ some k_ ≠ (.slice Ao45 t351.length co45 : Value).ownBlock ∧ some k_ ≠ (.slice Ao86 t367.length co86 : Value).ownBlock ∧ some k_ ≠ (.slice Ao90 t370.length co90 : Value).ownBlock ∧ k_ ≠ gb344 ∧ k_ ≠ gb354 ∧ k_ ≠ gb373) (.slice (some ad359) l0_0.length c0_0) l0_0) := ⟨zV (Kd.V_mono (Kd.V_far (p := ⟨gb373, 1, none⟩) (Kd.V_far (p := ⟨gb373, 0, none⟩) (Kd.V_mono HO_345000.out (fun k_ hk => (⟨hk, hk.2⟩ : _ ∧ k_ ≠ gb373))) (fun _ hk => hk.2) (.slice Ao86 t367.length co86)) (fun _ hk => hk.2) (.slice Ao90 t370.length co90)) (fun _ hk => ⟨hk.1.1.1.1.1, ⟨hk.1.1.1.1.2.1, ⟨hk.1.1.1.1.2.2.1, ⟨hk.1.1.1.1.2.2.2.1, ⟨hk.1.1.1.1.2.2.2.2.1, ⟨hk.1.1.1.2, ⟨hk.1.1.2, ⟨hk.1.1.1.1.2.2.2.2.2.1, ⟨hk.1.1.1.1.2.2.2.2.2.2, hk.1.2⟩⟩⟩⟩⟩⟩⟩⟩⟩))⟩
               have n4_ : Aside0 (Kd.V k47 47 ((w85.setCell ⟨gb373, 0, none⟩ (.slice Ao86 t367.length co86)).setCell ⟨gb373, 1, none⟩ (.slice Ao90 t370.length co90)) w.heap.size (fun k_ => ((P0_0_ k_ ∨ P0_1_ k_) ∨ w.heap.size ≤ k_) ∧ some k_ ≠ (v356 : Value).ownBlock ∧ some k_ ≠ (v361 : Value).ownBlock ∧ some k_ ≠ (.slice Ao42 t348.length co42 : Value).ownBlock ∧ some k_ ≠ (.slice Ao45 t351.length co45 : Value).ownBlock ∧ some k_ ≠ (.slice Ao86 t367.length co86 : Value).ownBlock ∧ some k_ ≠ (.slice Ao90 t370.length co90 : Value).ownBlock ∧ k_ ≠ gb344 ∧ k_ ≠ gb354 ∧ k_ ≠ gb373) (.slice A0_1 l0_1.length c0_1) l0_1) := ⟨zV (Kd.V_mono (Kd.V_far (p := ⟨gb373, 1, none⟩) (Kd.V_far (p := ⟨gb373, 0, none⟩) (Kd.V_mono HO_345001.out (fun k_ hk => (⟨hk, hk.2⟩ : _ ∧ k_ ≠ gb373))) (fun _ hk => hk.2) (.slice Ao86 t367.length co86)) (fun _ hk => hk.2) (.slice Ao90 t370.length co90)) (fun _ hk => ⟨hk.1.1.1.1.1, ⟨hk.1.1.1.1.2.1, ⟨hk.1.1.1.1.2.2.1, ⟨hk.1.1.1.1.2.2.2.1, ⟨hk.1.1.1.1.2.2.2.2.1, ⟨hk.1.1.1.2, ⟨hk.1.1.2, ⟨hk.1.1.1.1.2.2.2.2.2.1, ⟨hk.1.1.1.1.2.2.2.2.2.2, hk.1.2⟩⟩⟩⟩⟩⟩⟩⟩⟩))⟩
               have n5_ : Aside0 (Kd.N (Kd.slice 5 (Kd.int .u8)) 26 ((w85.setCell ⟨gb373, 0, none⟩ (.slice Ao86 t367.length co86)).setCell ⟨gb373, 1, none⟩ (.slice Ao90 t370.length co90)) w.heap.size (fun k_ => ((P0_0_ k_ ∨ P0_1_ k_) ∨ w.heap.size ≤ k_) ∧ some k_ ≠ (v356 : Value).ownBlock ∧ some k_ ≠ (v361 : Value).ownBlock ∧ some k_ ≠ (.slice Ao45 t351.length co45 : Value).ownBlock ∧ some k_ ≠ (.slice Ao86 t367.length co86 : Value).ownBlock ∧ some k_ ≠ (.slice Ao90 t370.length co90 : Value).ownBlock ∧ k_ ≠ gb344 ∧ k_ ≠ gb354 ∧ k_ ≠ gb373) (.slice Ao42 t348.length co42) t348) := ⟨zN (Kd.N_mono (Kd.N_far (p := ⟨gb373, 1, none⟩) (Kd.N_far (p := ⟨gb373, 0, none⟩) (Kd.N_mono HO_355000.out (fun k_ hk => (⟨hk, hk.2⟩ : _ ∧ k_ ≠ gb373))) (fun _ hk => hk.2) (.slice Ao86 t367.length co86)) (fun _ hk => hk.2) (.slice Ao90 t370.length co90)) (fun _ hk => ⟨hk.1.1.1.1.1, ⟨hk.1.1.1.1.2.1, ⟨hk.1.1.1.1.2.2.1, ⟨hk.1.1.1.1.2.2.2.1, ⟨hk.1.1.1.2, ⟨hk.1.1.2, ⟨hk.1.1.1.1.2.2.2.2.1, ⟨hk.1.1.1.1.2.2.2.2.2, hk.1.2⟩⟩⟩⟩⟩⟩⟩⟩))⟩
               have n6_ : Aside0 (Kd.N k47 47 ((w85.setCell ⟨gb373, 0, none⟩ (.slice Ao86 t367.length co86)).setCell ⟨gb373, 1, none⟩ (.slice Ao90 t370.length co90)) w.heap.size (fun k_ => ((P0_0_ k_ ∨ P0_1_ k_) ∨ w.heap.size ≤ k_) ∧ some k_ ≠ (v356 : Value).ownBlock ∧ some k_ ≠ (v361 : Value).ownBlock ∧ some k_ ≠ (.slice Ao42 t348.length co42 : Value).ownBlock ∧ some k_ ≠ (.slice Ao86 t367.length co86 : Value).ownBlock ∧ some k_ ≠ (.slice Ao90 t370.length co90 : Value).ownBlock ∧ k_ ≠ gb344 ∧ k_ ≠ gb354 ∧ k_ ≠ gb373) (.slice Ao45 t351.length co45) t351) := ⟨zN (Kd.N_mono (Kd.N_far (p := ⟨gb373, 1, none⟩) (Kd.N_far (p := ⟨gb373, 0, none⟩) (Kd.N_mono HO_355001.out (fun k_ hk => (⟨hk, hk.2⟩ : _ ∧ k_ ≠ gb373))) (fun _ hk => hk.2) (.slice Ao86 t367.length co86)) (fun _ hk => hk.2) (.slice Ao90 t370.length co90)) (fun _ hk => ⟨hk.1.1.1.1.1, ⟨hk.1.1.1.1.2.1, ⟨hk.1.1.1.1.2.2.1, ⟨hk.1.1.1.1.2.2.2.1, ⟨hk.1.1.1.2, ⟨hk.1.1.2, ⟨hk.1.1.1.1.2.2.2.2.1, ⟨hk.1.1.1.1.2.2.2.2.2, hk.1.2⟩⟩⟩⟩⟩⟩⟩⟩))⟩
               have n7_ : Aside0 (Kd.N (Kd.slice 5 (Kd.int .u8)) 26 ((w85.setCell ⟨gb373, 0, none⟩ (.slice Ao86 t367.length co86)).setCell ⟨gb373, 1, none⟩ (.slice Ao90 t370.length co90)) w.heap.size (fun k_ => ((P0_0_ k_ ∨ P0_1_ k_) ∨ w.heap.size ≤ k_) ∧ some k_ ≠ (v356 : Value).ownBlock ∧ some k_ ≠ (v361 : Value).ownBlock ∧ some k_ ≠ (.slice Ao42 t348.length co42 : Value).ownBlock ∧ some k_ ≠ (.slice Ao45 t351.length co45 : Value).ownBlock ∧ some k_ ≠ (.slice Ao90 t370.length co90 : Value).ownBlock ∧ k_ ≠ gb344 ∧ k_ ≠ gb354 ∧ k_ ≠ gb373) (.slice Ao86 t367.length co86) t367) := ⟨zN (Kd.N_mono (Kd.N_far (p := ⟨gb373, 1, none⟩) (Kd.N_far (p := ⟨gb373, 0, none⟩) (Kd.N_mono HO369.out (fun k_ hk => (⟨hk, hk.2⟩ : _ ∧ k_ ≠ gb373))) (fun _ hk => hk.2) (.slice Ao86 t367.length co86)) (fun _ hk => hk.2) (.slice Ao90 t370.length co90)) (fun _ hk => ⟨hk.1.1.1, ⟨hk.1.1.2.2.1, ⟨hk.1.1.2.2.2.1, ⟨hk.1.1.2.2.2.2.1, ⟨hk.1.1.2.2.2.2.2.1, ⟨hk.1.1.2.1, ⟨hk.1.1.2.2.2.2.2.2.1, ⟨hk.1.1.2.2.2.2.2.2.2, hk.1.2⟩⟩⟩⟩⟩⟩⟩⟩))⟩
               have n8_ : Aside0 (Kd.N k47 47 ((w85.setCell ⟨gb373, 0, none⟩ (.slice Ao86 t367.length co86)).setCell ⟨gb373, 1, none⟩ (.slice Ao90 t370.length co90)) w.heap.size (fun k_ => ((P0_0_ k_ ∨ P0_1_ k_) ∨ w.heap.size ≤ k_) ∧ some k_ ≠ (v356 : Value).ownBlock ∧ some k_ ≠ (v361 : Value).ownBlock ∧ some k_ ≠ (.slice Ao42 t348.length co42 : Value).ownBlock ∧ some k_ ≠ (.slice Ao45 t351.length co45 : Value).ownBlock ∧ some k_ ≠ (.slice Ao86 t367.length co86 : Value).ownBlock ∧ k_ ≠ gb344 ∧ k_ ≠ gb354 ∧ k_ ≠ gb373) (.slice Ao90 t370.length co90) t370) := ⟨zN (Kd.N_mono (Kd.N_far (p := ⟨gb373, 1, none⟩) (Kd.N_far (p := ⟨gb373, 0, none⟩) (Kd.N_mono HO372.out (fun k_ hk => (⟨hk, hk.2⟩ : _ ∧ k_ ≠ gb373))) (fun _ hk => hk.2) (.slice Ao86 t367.length co86)) (fun _ hk => hk.2) (.slice Ao90 t370.length co90)) (fun _ hk => ⟨hk.1.1.1, ⟨hk.1.1.2.2.1, ⟨hk.1.1.2.2.2.1, ⟨hk.1.1.2.2.2.2.1, ⟨hk.1.1.2.2.2.2.2.1, ⟨hk.1.1.2.1, ⟨hk.1.1.2.2.2.2.2.2.1, ⟨hk.1.1.2.2.2.2.2.2.2, hk.1.2⟩⟩⟩⟩⟩⟩⟩⟩))⟩
               have n9_ : Aside0 (((w85.setCell ⟨gb373, 0, none⟩ (.slice Ao86 t367.length co86)).setCell ⟨gb373, 1, none⟩ (.slice Ao90 t370.length co90)).heap[gb344]? = some (.cells #[.slice (some ad359) l0_0.length c0_0, .slice A0_1 l0_1.length c0_1] 25 (0, 0))) := ⟨by (with_reducible repeat (first | refine qN ?_ _ | refine qD ?_ | refine qA ?_ _)); refine blk_far ?_ NB344_373.out _; (with_reducible repeat (first | refine qN ?_ _ | refine qD ?_ | refine qA ?_ _)); refine blk_far ?_ NB344_373.out _; (with_reducible repeat (first | refine qN ?_ _ | refine qD ?_ | refine qA ?_ _)); exact BK344.out⟩
               have n10_ : Aside0 (((w85.setCell ⟨gb373, 0, none⟩ (.slice Ao86 t367.length co86)).setCell ⟨gb373, 1, none⟩ (.slice Ao90 t370.length co90)).heap[gb354]? = some (.cells #[.slice Ao42 t348.length co42, .slice Ao45 t351.length co45] 25 (0, 0))) := ⟨by (with_reducible repeat (first | refine qN ?_ _ | refine qD ?_ | refine qA ?_ _)); refine blk_far ?_ NB354_373.out _; (with_reducible repeat (first | refine qN ?_ _ | refine qD ?_ | refine qA ?_ _)); refine blk_far ?_ NB354_373.out _; (with_reducible repeat (first | refine qN ?_ _ | refine qD ?_ | refine qA ?_ _)); exact BK354.out⟩
               have n11_ : Aside0 (((w85.setCell ⟨gb373, 0, none⟩ (.slice Ao86 t367.length co86)).setCell ⟨gb373, 1, none⟩ (.slice Ao90 t370.length co90)).heap[gb373]? = some (.cells #[.slice Ao86 t367.length co86, .slice Ao90 t370.length co90] 25 (0, 0))) := ⟨by (with_reducible repeat (first | refine qN ?_ _ | refine qD ?_ | refine qA ?_ _)); refine blk_put (cs := #[.slice Ao86 t367.length co86, .slice none 0 0]) ?_ 1 _ rfl; (with_reducible repeat (first | refine qN ?_ _ | refine qD ?_ | refine qA ?_ _)); refine blk_put (cs := #[.slice none 0 0, .slice none 0 0]) ?_ 0 _ rfl; (with_reducible repeat (first | refine qN ?_ _ | refine qD ?_ | refine qA ?_ _)); exact BK373.out⟩
               have n12_ : Aside0 (Below w.heap.size w ((w85.setCell ⟨gb373, 0, none⟩ (.slice Ao86 t367.length co86)).setCell ⟨gb373, 1, none⟩ (.slice Ao90 t370.length co90))) := ⟨by repeat (first | (with_reducible first | exact HB.out | apply pA | apply pN | apply pD | refine pS ?_ GE344.out | refine pS ?_ GE354.out | refine pS ?_ GE373.out) | exact HB.out)⟩
               (try clear HO_9)
               (try clear HO_11)
               (try clear HO_12)
               (try clear HO_345000)
               (try clear HO_345001)
               (try clear HO_355000)
               (try clear HO_355001)
               (try clear HO369)
               (try clear HO372)
               (try clear BK344)
               (try clear BK354)
               (try clear BK373)
               (try clear HB)
               generalize ((w85.setCell ⟨gb373, 0, none⟩ (.slice Ao86 t367.length co86)).setCell ⟨gb373, 1, none⟩ (.slice Ao90 t370.length co90)) = w97 at n0_ n1_ n2_ n3_ n4_ n5_ n6_ n7_ n8_ n9_ n10_ n11_ n12_ ⊢
               have HO_9 := n0_
               have HO_11 := n1_
               have HO_12 := n2_
               have HO_345000 := n3_
               have HO_345001 := n4_
               have HO_355000 := n5_
               have HO_355001 := n6_
               have HO369 := n7_
               have HO372 := n8_
               have BK344 := n9_
               have BK354 := n10_
               have BK373 := n11_
               have HB := n12_
               clear n0_ n1_ n2_ n3_ n4_ n5_ n6_ n7_ n8_ n9_ n10_ n11_ n12_
               have n0_ := Aside0.mk (Kd.R_drew HO_9.out)
               have n1_ := Aside0.mk (Kd.V_drew HO_11.out)
               have n2_ := Aside0.mk (Kd.R_drew HO_12.out)
               have n3_ := Aside0.mk (Kd.V_drew HO_345000.out)
               have n4_ := Aside0.mk (Kd.V_drew HO_345001.out)
               have n5_ := Aside0.mk (Kd.N_drew HO_355000.out)
               have n6_ := Aside0.mk (Kd.N_drew HO_355001.out)
               have n7_ := Aside0.mk (Kd.N_drew HO369.out)
               have n8_ := Aside0.mk (Kd.N_drew HO372.out)
               have n9_ := Aside0.mk (qD BK344.out)
               have n10_ := Aside0.mk (qD BK354.out)
               have n11_ := Aside0.mk (qD BK373.out)
               have n12_ := Aside0.mk (pD HB.out)
               clear HO_9
               clear HO_11
               clear HO_12
               clear HO_345000
               clear HO_345001
               clear HO_355000
               clear HO_355001
               clear HO369
               clear HO372
               clear BK344
               clear BK354
               clear BK373
               clear HB
               have HO_9 := n0_
               have HO_11 := n1_
               have HO_12 := n2_
               have HO_345000 := n3_
               have HO_345001 := n4_
               have HO_355000 := n5_
               have HO_355001 := n6_
               have HO369 := n7_
               have HO372 := n8_
               have BK344 := n9_
               have BK354 := n10_
               have BK373 := n11_
               have HB := n12_
               clear n0_ n1_ n2_ n3_ n4_ n5_ n6_ n7_ n8_ n9_ n10_ n11_ n12_
               obtain ⟨Ao99, co99, eo99⟩ := Kd.R_slice HO_9.out
               (first | subst eo99 | (injection eo99 with f1_ f2_ f3_; have f4_ := f1_.symm; have f5_ := f3_.symm; clear f1_ f2_ f3_; subst f4_; subst f5_))
               obtain ⟨Ao100, co100, eo100⟩ := Kd.V_slice HO_11.out
               (first | subst eo100 | (injection eo100 with f1_ f2_ f3_; have f4_ := f1_.symm; have f5_ := f3_.symm; clear f1_ f2_ f3_; subst f4_; subst f5_))
               refine start_ (n := 22) (S := fun w' => w'.cell? ⟨gb354, 0, none⟩ = some (.slice Ao42 t348.length co42) ∧ w'.cell? ⟨gb354, 1, none⟩ = some (.slice Ao45 t351.length co45) ∧ w'.cell? ⟨gb344, 0, none⟩ = some (.slice (some ad359) l0_0.length c0_0) ∧ w'.cell? ⟨gb344, 1, none⟩ = some (.slice A0_1 l0_1.length c0_1) ∧ w'.cell? ⟨gb373, 0, none⟩ = some (.slice Ao86 t367.length co86) ∧ w'.cell? ⟨gb373, 1, none⟩ = some (.slice Ao90 t370.length co90)) (ds := []) #[oO, oO, oO, oO, oO, oO, oO, oO, oO, oO, oO, oO, oO, oO, oO, oO, oO, oO, oO, oO, oO, oO] (by kernel_rfl) rfl rfl ⟨(blk_cell BK354.out 0).trans rfl, (blk_cell BK354.out 1).trans rfl, (blk_cell BK344.out 0).trans rfl, (blk_cell BK344.out 1).trans rfl, (blk_cell BK373.out 0).trans rfl, (blk_cell BK373.out 1).trans rfl⟩ (fun hHeld => ?_); refine with_tabW portreevelaw03_DiskCrashes.tab15 portreevelaw03_DiskCrashes.bits15 (fun HT_ HW_ => ?_)
               generalize w97.drew = w98 at HO_9 HO_11 HO_12 HO_345000 HO_345001 HO_355000 HO_355001 HO369 HO372 BK344 BK354 BK373 HB hHeld ⊢
               refine pure_ (i := 0) (N := some 94) (v := ?_) (a' := ?_) #[oI, oO, oO, oO, oO, oO, oO, oO, oO, oO, oO, oO, oO, oO, oO, oO, oO, oO, oO, oO, oO, oO] rfl rfl (any_of HT_.out (by kernel_rfl)) (fun _ _ _ h => h) (Or.inl ⟨by rfl, ?_⟩) ?_ ?_
               rotate_left
               ·intro w'
                go_simp
                with_reducible rfl
               rotate_left
               ·simp only [Act.put, sT, s0, s1, i64_w, i32_w]
                rfl
               refine pure_ (i := 1) (N := some 95) (v := ?_) (a' := ?_) #[oI, oI, oO, oO, oO, oO, oO, oO, oO, oO, oO, oO, oO, oO, oO, oO, oO, oO, oO, oO, oO, oO] rfl rfl (any_of HT_.out (by kernel_rfl)) (fun _ _ _ h => h) (Or.inl ⟨by rfl, ?_⟩) ?_ ?_
               rotate_left
               ·intro w'
                go_simp
                with_reducible rfl
               rotate_left
               ·simp only [Act.put, sT, s0, s1, i64_w, i32_w]
                rfl
               refine pure_ (i := 2) (N := some 96) (v := ?_) (a' := ?_) #[oI, oI, oI, oO, oO, oO, oO, oO, oO, oO, oO, oO, oO, oO, oO, oO, oO, oO, oO, oO, oO, oO] rfl rfl (any_of HT_.out (by kernel_rfl)) (fun _ _ _ h => h) (Or.inl ⟨by rfl, ?_⟩) ?_ ?_
               rotate_left
               ·intro w'
                go_simp
                with_reducible rfl
               rotate_left
               ·simp only [Act.put, sT, s0, s1, i64_w, i32_w]
                rfl
               refine pure_ (i := 3) (N := some 97) (v := ?_) (a' := ?_) #[oI, oI, oI, oI, oO, oO, oO, oO, oO, oO, oO, oO, oO, oO, oO, oO, oO, oO, oO, oO, oO, oO] rfl rfl (any_of HT_.out (by kernel_rfl)) (fun _ _ _ h => h) (Or.inl ⟨by rfl, ?_⟩) ?_ ?_
               rotate_left
               ·intro w'
                go_simp
                with_reducible rfl
               rotate_left
               ·simp only [Act.put, sT, s0, s1, i64_w, i32_w]
                rfl
               refine pure_ (i := 4) (N := some 98) (v := ?_) (a' := ?_) #[oI, oI, oI, oI, oI, oO, oO, oO, oO, oO, oO, oO, oO, oO, oO, oO, oO, oO, oO, oO, oO, oO] rfl rfl (any_of HT_.out (by kernel_rfl)) (fun _ _ _ h => h) (Or.inl ⟨by rfl, ?_⟩) ?_ ?_
               rotate_left
               ·intro w'
                go_simp
                with_reducible rfl
               rotate_left
               ·simp only [Act.put, sT, s0, s1, i64_w, i32_w]
                rfl
               refine one_ (i := 5) (N := some 99) #[oI, oI, oI, oI, oI, oI, oO, oO, oO, oO, oO, oO, oO, oO, oO, oO, oO, oO, oO, oO, oO, oO] rfl rfl (one_of HT_.out (by kernel_rfl)) (by decide) (fun K hK => ?_)
               refine goes_ Try.func17 (by kernel_rfl) rfl #[.slice Ao99 t355.length co99, .slice Ao100 x11_2.length co100] (by rfl) rfl rfl (by (try simp only [List.map_toArray, List.map_cons, List.map_nil]); first | done | rfl | (simp only [List.length_drop, List.length_take]; rfl)) ?_
               with_reducible refine (portreeveref01_Row.calls k2 _ _ t355 _ _ x11_2 true _ ?side1 ?side2 ?side3 ?side4 A92.out).mono ?_
               (case side1 => repeat (first | exact (Kd.R_reads' HO_9.out).2.2 | (with_reducible refine Kd.C_alloc ?_ _) | (with_reducible refine Kd.C_drewN ?_ _) | (with_reducible refine Kd.C_drew ?_)))
               (case side2 => exact (Kd.R_reads' HO_9.out).2.1)
               (case side3 => repeat (first | exact (Kd.V_reads' HO_11.out).2.2 | (with_reducible refine Kd.C_alloc ?_ _) | (with_reducible refine Kd.C_drewN ?_ _) | (with_reducible refine Kd.C_drew ?_)))
               (case side4 => exact (Kd.V_reads' HO_11.out).2.1)
               rintro e w' ⟨rfl, ⟨nd, rfl⟩⟩
               refine ⟨_, rfl, ?_⟩
               obtain ⟨Ao101, co101, eo101⟩ := Kd.R_slice HO_12.out
               (first | subst eo101 | (injection eo101 with f1_ f2_ f3_; have f4_ := f1_.symm; have f5_ := f3_.symm; clear f1_ f2_ f3_; subst f4_; subst f5_))
               refine hK.out _ _ ⟨(blk_cell BK354.out 0).trans rfl, (blk_cell BK354.out 1).trans rfl, (blk_cell BK344.out 0).trans rfl, (blk_cell BK344.out 1).trans rfl, (blk_cell BK373.out 0).trans rfl, (blk_cell BK373.out 1).trans rfl⟩ (fun hHeld => ?_)
               clear hK K
               refine norm_ (a' := ?_) ?_ ?_
               rotate_left
               ·show Act.put _ (some 99) _ = _
                simp only [Act.put, sT, s0, s1, i64_w, i32_w]
                rfl
               refine pure_ (i := 6) (N := some 100) (v := ?_) (a' := ?_) #[oI, oI, oI, oI, oI, oI, oI, oO, oO, oO, oO, oO, oO, oO, oO, oO, oO, oO, oO, oO, oO, oO] rfl rfl (any_of HT_.out (by kernel_rfl)) (fun _ _ _ h => h) (Or.inl ⟨by rfl, ?_⟩) ?_ ?_
               rotate_left
               ·intro w'
                go_simp
                with_reducible rfl
               rotate_left
               ·simp only [Act.put, sT, s0, s1, i64_w, i32_w]
                rfl
               refine pure_ (i := 7) (N := some 101) (v := ?_) (a' := ?_) #[oI, oI, oI, oI, oI, oI, oI, oI, oO, oO, oO, oO, oO, oO, oO, oO, oO, oO, oO, oO, oO, oO] rfl rfl (any_of HT_.out (by kernel_rfl)) (fun _ _ _ h => h) (Or.inl ⟨by rfl, ?_⟩) ?_ ?_
               rotate_left
               ·intro w'
                go_simp
                with_reducible rfl
               rotate_left
               ·simp only [Act.put, sT, s0, s1, i64_w, i32_w]
                rfl
               refine pure_ (i := 8) (N := some 102) (v := ?_) (a' := ?_) #[oI, oI, oI, oI, oI, oI, oI, oI, oI, oO, oO, oO, oO, oO, oO, oO, oO, oO, oO, oO, oO, oO] rfl rfl (any_of HT_.out (by kernel_rfl)) (fun _ _ _ h => h) (Or.inl ⟨by rfl, ?_⟩) ?_ ?_
               rotate_left
               ·intro w'
                go_simp
                with_reducible rfl
               rotate_left
               ·simp only [Act.put, sT, s0, s1, i64_w, i32_w]
                rfl
               refine pure_ (i := 9) (N := some 103) (v := ?_) (a' := ?_) #[oI, oI, oI, oI, oI, oI, oI, oI, oI, oI, oO, oO, oO, oO, oO, oO, oO, oO, oO, oO, oO, oO] rfl rfl (any_of HT_.out (by kernel_rfl)) (fun _ _ _ h => h) (Or.inl ⟨by rfl, ?_⟩) ?_ ?_
               rotate_left
               ·intro w'
                go_simp
                with_reducible rfl
               rotate_left
               ·simp only [Act.put, sT, s0, s1, i64_w, i32_w]
                rfl
               refine take_ (i := 10) (N := some 104) (v := ?_) (a' := ?_) #[oI, oI, oI, oI, oI, oI, oI, oI, oI, oI, oI, oO, oO, oO, oO, oO, oO, oO, oO, oO, oO, oO] rfl rfl (take_ofW HT_.out HW_.out (by kernel_rfl)) (fun _ _ _ h => h) (Or.inl ⟨by rfl, ?_⟩) hHeld ?_ ?_
               rotate_left
               ·rintro w' ⟨s0, s1, s2, s3, s4, s5⟩
                go_simp
                with_reducible rfl
               rotate_left
               ·simp only [Act.put, sT, s0, s1, i64_w, i32_w]
                rfl
               refine pure_ (i := 11) (N := some 105) (v := ?_) (a' := ?_) #[oI, oI, oI, oI, oI, oI, oI, oI, oI, oI, oI, oI, oO, oO, oO, oO, oO, oO, oO, oO, oO, oO] rfl rfl (any_of HT_.out (by kernel_rfl)) (fun _ _ _ h => h) (Or.inl ⟨by rfl, ?_⟩) ?_ ?_
               rotate_left
               ·intro w'
                go_simp
                with_reducible rfl
               rotate_left
               ·simp only [Act.put, sT, s0, s1, i64_w, i32_w]
                rfl
               refine pure_ (i := 12) (N := some 106) (v := ?_) (a' := ?_) #[oI, oI, oI, oI, oI, oI, oI, oI, oI, oI, oI, oI, oI, oO, oO, oO, oO, oO, oO, oO, oO, oO] rfl rfl (any_of HT_.out (by kernel_rfl)) (fun _ _ _ h => h) (Or.inl ⟨by rfl, ?_⟩) ?_ ?_
               rotate_left
               ·intro w'
                go_simp
                with_reducible rfl
               rotate_left
               ·simp only [Act.put, sT, s0, s1, i64_w, i32_w]
                rfl
               refine pure_ (i := 13) (N := some 107) (v := ?_) (a' := ?_) #[oI, oI, oI, oI, oI, oI, oI, oI, oI, oI, oI, oI, oI, oI, oO, oO, oO, oO, oO, oO, oO, oO] rfl rfl (any_of HT_.out (by kernel_rfl)) (fun _ _ _ h => h) (Or.inl ⟨by rfl, ?_⟩) ?_ ?_
               rotate_left
               ·intro w'
                go_simp
                with_reducible rfl
               rotate_left
               ·simp only [Act.put, sT, s0, s1, i64_w, i32_w]
                rfl
               refine pure_ (i := 14) (N := some 108) (v := ?_) (a' := ?_) #[oI, oI, oI, oI, oI, oI, oI, oI, oI, oI, oI, oI, oI, oI, oI, oO, oO, oO, oO, oO, oO, oO] rfl rfl (any_of HT_.out (by kernel_rfl)) (fun _ _ _ h => h) (Or.inl ⟨by rfl, ?_⟩) ?_ ?_
               rotate_left
               ·intro w'
                go_simp
                with_reducible rfl
               rotate_left
               ·simp only [Act.put, sT, s0, s1, i64_w, i32_w]
                rfl
               refine pure_ (i := 16) (N := some 110) (v := ?_) (a' := ?_) #[oI, oI, oI, oI, oI, oI, oI, oI, oI, oI, oI, oI, oI, oI, oI, oO, oI, oO, oO, oO, oO, oO] rfl rfl (any_of HT_.out (by kernel_rfl)) (fun _ _ _ h => h) (Or.inl ⟨by rfl, ?_⟩) ?_ ?_
               rotate_left
               ·intro w'
                go_simp
                with_reducible rfl
               rotate_left
               ·simp only [Act.put, sT, s0, s1, i64_w, i32_w]
                rfl
               refine take_ (i := 15) (N := some 109) (v := ?_) (a' := ?_) #[oI, oI, oI, oI, oI, oI, oI, oI, oI, oI, oI, oI, oI, oI, oI, oI, oI, oO, oO, oO, oO, oO] rfl rfl (take_ofW HT_.out HW_.out (by kernel_rfl)) (fun _ _ _ h => h) (Or.inl ⟨by rfl, ?_⟩) hHeld ?_ ?_
               rotate_left
               ·rintro w' ⟨s0, s1, s2, s3, s4, s5⟩
                go_simp
                with_reducible rfl
               rotate_left
               ·simp only [Act.put, sT, s0, s1, i64_w, i32_w]
                rfl
               refine take_ (i := 18) (N := some 112) (v := ?_) (a' := ?_) #[oI, oI, oI, oI, oI, oI, oI, oI, oI, oI, oI, oI, oI, oI, oI, oI, oI, oO, oI, oO, oO, oO] rfl rfl (take_ofW HT_.out HW_.out (by kernel_rfl)) (fun _ _ _ h => h) (Or.inl ⟨by rfl, ?_⟩) hHeld ?_ ?_
               rotate_left
               ·rintro w' ⟨s0, s1, s2, s3, s4, s5⟩
                go_simp
                with_reducible rfl
               rotate_left
               ·simp only [Act.put, sT, s0, s1, i64_w, i32_w]
                rfl
               refine one_ (i := 17) (N := some 111) #[oI, oI, oI, oI, oI, oI, oI, oI, oI, oI, oI, oI, oI, oI, oI, oI, oI, oI, oI, oO, oO, oO] rfl rfl (one_of HT_.out (by kernel_rfl)) (by decide) (fun K hK => ?_)
               refine goes_ Try.func20 (by kernel_rfl) rfl #[.agg #[.slice (some ad359) l0_0.length c0_0, .slice A0_1 l0_1.length c0_1], .slice Ao101 x12_2.length co101] (by rfl) rfl rfl (by (try simp only [List.map_toArray, List.map_cons, List.map_nil]); first | done | rfl | (simp only [List.length_drop, List.length_take]; rfl)) ?_
               with_reducible refine (disk_Crash.calls k2 (fun k_ => (((P0_0_ k_ ∨ P0_1_ k_) ∨ w.heap.size ≤ k_) ∧ (some k_ ≠ (.slice Ao99 t355.length co99 : Value).ownBlock ∧ (some k_ ≠ (.slice Ao101 x12_2.length co101 : Value).ownBlock ∧ (some k_ ≠ (.slice Ao42 t348.length co42 : Value).ownBlock ∧ (some k_ ≠ (.slice Ao45 t351.length co45 : Value).ownBlock ∧ (some k_ ≠ (.slice Ao86 t367.length co86 : Value).ownBlock ∧ (some k_ ≠ (.slice Ao90 t370.length co90 : Value).ownBlock ∧ (k_ ≠ gb344 ∧ (k_ ≠ gb354 ∧ k_ ≠ gb373)))))))))) _ _ l0_0 (fun k_ => (((P0_0_ k_ ∨ P0_1_ k_) ∨ w.heap.size ≤ k_) ∧ (some k_ ≠ (.slice Ao99 t355.length co99 : Value).ownBlock ∧ (some k_ ≠ (.slice Ao101 x12_2.length co101 : Value).ownBlock ∧ (some k_ ≠ (.slice Ao42 t348.length co42 : Value).ownBlock ∧ (some k_ ≠ (.slice Ao45 t351.length co45 : Value).ownBlock ∧ (some k_ ≠ (.slice Ao86 t367.length co86 : Value).ownBlock ∧ (some k_ ≠ (.slice Ao90 t370.length co90 : Value).ownBlock ∧ (k_ ≠ gb344 ∧ (k_ ≠ gb354 ∧ k_ ≠ gb373)))))))))) _ _ l0_1 _ _ x12_2 t375 t378 _ ?side1 ?side2 ?side3 ?side4 A95.out).mono ?_
               (case side1 => exact HO_345000.out)
               (case side2 => exact HO_345001.out)
               (case side3 => repeat (first | exact (Kd.R_reads' HO_12.out).2.2 | (with_reducible refine Kd.C_alloc ?_ _) | (with_reducible refine Kd.C_drewN ?_ _) | (with_reducible refine Kd.C_drew ?_)))
               (case side4 => exact (Kd.R_reads' HO_12.out).2.1)
               rintro e w102 ⟨v376, v379, rfl, ho0, ho1, hb⟩
               refine ⟨_, rfl, ?_⟩
               have n0_ := Aside0.mk (Kd.R_below (zR HO_9.out) hb)
               have n1_ := Aside0.mk (Kd.V_mono (Kd.V_told (Kd.V_told (Kd.V_old (zV HO_11.out) hb) (Kd.N_base ho0)) (Kd.N_base ho1)) (fun _ h_ => h_.1))
               have n2_ := Aside0.mk (Kd.R_below (zR HO_12.out) hb)
               have n3_ := Aside0.mk (Kd.V_mono (Kd.V_told (Kd.V_told (Kd.V_old (zV HO_345000.out) hb) (Kd.N_base ho0)) (Kd.N_base ho1)) (fun _ h_ => h_.1))
               have n4_ := Aside0.mk (Kd.V_mono (Kd.V_told (Kd.V_told (Kd.V_old (zV HO_345001.out) hb) (Kd.N_base ho0)) (Kd.N_base ho1)) (fun _ h_ => h_.1))
               have n5_ := Aside0.mk (Kd.N_mono (Kd.N_told (Kd.N_told (Kd.N_old (zN HO_355000.out) hb) (Kd.N_base ho0)) (Kd.N_base ho1)) (fun _ h_ => h_.1))
               have n6_ := Aside0.mk (Kd.N_mono (Kd.N_told (Kd.N_told (Kd.N_old (zN HO_355001.out) hb) (Kd.N_base ho0)) (Kd.N_base ho1)) (fun _ h_ => h_.1))
               have n7_ := Aside0.mk (Kd.N_mono (Kd.N_told (Kd.N_told (Kd.N_old (zN HO369.out) hb) (Kd.N_base ho0)) (Kd.N_base ho1)) (fun _ h_ => h_.1))
               have n8_ := Aside0.mk (Kd.N_mono (Kd.N_told (Kd.N_told (Kd.N_old (zN HO372.out) hb) (Kd.N_base ho0)) (Kd.N_base ho1)) (fun _ h_ => h_.1))
               have n9_ := Aside0.mk (Kd.N_lower (Kd.N_mono (ok' := fun k_ => ((P0_0_ k_ ∨ P0_1_ k_) ∨ w.heap.size ≤ k_) ∧ some k_ ≠ (v379 : Value).ownBlock ∧ some k_ ≠ (.slice Ao99 t355.length co99 : Value).ownBlock ∧ some k_ ≠ (.slice Ao101 x12_2.length co101 : Value).ownBlock ∧ some k_ ≠ (.slice Ao42 t348.length co42 : Value).ownBlock ∧ some k_ ≠ (.slice Ao45 t351.length co45 : Value).ownBlock ∧ some k_ ≠ (.slice Ao86 t367.length co86 : Value).ownBlock ∧ some k_ ≠ (.slice Ao90 t370.length co90 : Value).ownBlock ∧ k_ ≠ gb344 ∧ k_ ≠ gb354 ∧ k_ ≠ gb373) ho0 (fun k_ hk_ => ⟨Or.elim hk_.1 (fun hs_ => Or.elim hs_ (fun hs_ => hs_.1) (fun hs_ => hs_.1)) (fun hn_ => (.inr (Nat.le_trans (below_size (by repeat (first | (with_reducible first | exact HB.out | apply pA | apply pN | apply pD | refine pS ?_ GE344.out | refine pS ?_ GE354.out | refine pS ?_ GE373.out) | exact HB.out))) hn_))), hk_.2, Or.elim hk_.1 (fun hs_ => Or.elim hs_ (fun hs_ => hs_.2.1) (fun hs_ => hs_.2.1)) (fun hn_ => (Kd.fresh' (Kd.R_lt (zR HO_9.out)) k_ hn_)), Or.elim hk_.1 (fun hs_ => Or.elim hs_ (fun hs_ => hs_.2.2.1) (fun hs_ => hs_.2.2.1)) (fun hn_ => (Kd.fresh' (Kd.R_lt (zR HO_12.out)) k_ hn_)), Or.elim hk_.1 (fun hs_ => Or.elim hs_ (fun hs_ => hs_.2.2.2.1) (fun hs_ => hs_.2.2.2.1)) (fun hn_ => (Kd.fresh' (Kd.N_lt (zN HO_355000.out)) k_ hn_)), Or.elim hk_.1 (fun hs_ => Or.elim hs_ (fun hs_ => hs_.2.2.2.2.1) (fun hs_ => hs_.2.2.2.2.1)) (fun hn_ => (Kd.fresh' (Kd.N_lt (zN HO_355001.out)) k_ hn_)), Or.elim hk_.1 (fun hs_ => Or.elim hs_ (fun hs_ => hs_.2.2.2.2.2.1) (fun hs_ => hs_.2.2.2.2.2.1)) (fun hn_ => (Kd.fresh' (Kd.N_lt (zN HO369.out)) k_ hn_)), Or.elim hk_.1 (fun hs_ => Or.elim hs_ (fun hs_ => hs_.2.2.2.2.2.2.1) (fun hs_ => hs_.2.2.2.2.2.2.1)) (fun hn_ => (Kd.fresh' (Kd.N_lt (zN HO372.out)) k_ hn_)), Or.elim hk_.1 (fun hs_ => Or.elim hs_ (fun hs_ => hs_.2.2.2.2.2.2.2.1) (fun hs_ => hs_.2.2.2.2.2.2.2.1)) (fun hn_ => (Kd.freshB (g := gb344) (o := .cells #[.slice (some ad359) l0_0.length c0_0, .slice A0_1 l0_1.length c0_1] 25 (0, 0)) (zB BK344.out) k_ hn_)), Or.elim hk_.1 (fun hs_ => Or.elim hs_ (fun hs_ => hs_.2.2.2.2.2.2.2.2.1) (fun hs_ => hs_.2.2.2.2.2.2.2.2.1)) (fun hn_ => (Kd.freshB (g := gb354) (o := .cells #[.slice Ao42 t348.length co42, .slice Ao45 t351.length co45] 25 (0, 0)) (zB BK354.out) k_ hn_)), Or.elim hk_.1 (fun hs_ => Or.elim hs_ (fun hs_ => hs_.2.2.2.2.2.2.2.2.2) (fun hs_ => hs_.2.2.2.2.2.2.2.2.2)) (fun hn_ => (Kd.freshB (g := gb373) (o := .cells #[.slice Ao86 t367.length co86, .slice Ao90 t370.length co90] 25 (0, 0)) (zB BK373.out) k_ hn_))⟩)) (below_size (by repeat (first | (with_reducible first | exact HB.out | apply pA | apply pN | apply pD | refine pS ?_ GE344.out | refine pS ?_ GE354.out | refine pS ?_ GE373.out) | exact HB.out))))
               have n10_ := Aside0.mk (Kd.N_lower (Kd.N_mono (ok' := fun k_ => ((P0_0_ k_ ∨ P0_1_ k_) ∨ w.heap.size ≤ k_) ∧ some k_ ≠ (v376 : Value).ownBlock ∧ some k_ ≠ (.slice Ao99 t355.length co99 : Value).ownBlock ∧ some k_ ≠ (.slice Ao101 x12_2.length co101 : Value).ownBlock ∧ some k_ ≠ (.slice Ao42 t348.length co42 : Value).ownBlock ∧ some k_ ≠ (.slice Ao45 t351.length co45 : Value).ownBlock ∧ some k_ ≠ (.slice Ao86 t367.length co86 : Value).ownBlock ∧ some k_ ≠ (.slice Ao90 t370.length co90 : Value).ownBlock ∧ k_ ≠ gb344 ∧ k_ ≠ gb354 ∧ k_ ≠ gb373) ho1 (fun k_ hk_ => ⟨Or.elim hk_.1 (fun hs_ => Or.elim hs_ (fun hs_ => hs_.1) (fun hs_ => hs_.1)) (fun hn_ => (.inr (Nat.le_trans (below_size (by repeat (first | (with_reducible first | exact HB.out | apply pA | apply pN | apply pD | refine pS ?_ GE344.out | refine pS ?_ GE354.out | refine pS ?_ GE373.out) | exact HB.out))) hn_))), hk_.2, Or.elim hk_.1 (fun hs_ => Or.elim hs_ (fun hs_ => hs_.2.1) (fun hs_ => hs_.2.1)) (fun hn_ => (Kd.fresh' (Kd.R_lt (zR HO_9.out)) k_ hn_)), Or.elim hk_.1 (fun hs_ => Or.elim hs_ (fun hs_ => hs_.2.2.1) (fun hs_ => hs_.2.2.1)) (fun hn_ => (Kd.fresh' (Kd.R_lt (zR HO_12.out)) k_ hn_)), Or.elim hk_.1 (fun hs_ => Or.elim hs_ (fun hs_ => hs_.2.2.2.1) (fun hs_ => hs_.2.2.2.1)) (fun hn_ => (Kd.fresh' (Kd.N_lt (zN HO_355000.out)) k_ hn_)), Or.elim hk_.1 (fun hs_ => Or.elim hs_ (fun hs_ => hs_.2.2.2.2.1) (fun hs_ => hs_.2.2.2.2.1)) (fun hn_ => (Kd.fresh' (Kd.N_lt (zN HO_355001.out)) k_ hn_)), Or.elim hk_.1 (fun hs_ => Or.elim hs_ (fun hs_ => hs_.2.2.2.2.2.1) (fun hs_ => hs_.2.2.2.2.2.1)) (fun hn_ => (Kd.fresh' (Kd.N_lt (zN HO369.out)) k_ hn_)), Or.elim hk_.1 (fun hs_ => Or.elim hs_ (fun hs_ => hs_.2.2.2.2.2.2.1) (fun hs_ => hs_.2.2.2.2.2.2.1)) (fun hn_ => (Kd.fresh' (Kd.N_lt (zN HO372.out)) k_ hn_)), Or.elim hk_.1 (fun hs_ => Or.elim hs_ (fun hs_ => hs_.2.2.2.2.2.2.2.1) (fun hs_ => hs_.2.2.2.2.2.2.2.1)) (fun hn_ => (Kd.freshB (g := gb344) (o := .cells #[.slice (some ad359) l0_0.length c0_0, .slice A0_1 l0_1.length c0_1] 25 (0, 0)) (zB BK344.out) k_ hn_)), Or.elim hk_.1 (fun hs_ => Or.elim hs_ (fun hs_ => hs_.2.2.2.2.2.2.2.2.1) (fun hs_ => hs_.2.2.2.2.2.2.2.2.1)) (fun hn_ => (Kd.freshB (g := gb354) (o := .cells #[.slice Ao42 t348.length co42, .slice Ao45 t351.length co45] 25 (0, 0)) (zB BK354.out) k_ hn_)), Or.elim hk_.1 (fun hs_ => Or.elim hs_ (fun hs_ => hs_.2.2.2.2.2.2.2.2.2) (fun hs_ => hs_.2.2.2.2.2.2.2.2.2)) (fun hn_ => (Kd.freshB (g := gb373) (o := .cells #[.slice Ao86 t367.length co86, .slice Ao90 t370.length co90] 25 (0, 0)) (zB BK373.out) k_ hn_))⟩)) (below_size (by repeat (first | (with_reducible first | exact HB.out | apply pA | apply pN | apply pD | refine pS ?_ GE344.out | refine pS ?_ GE354.out | refine pS ?_ GE373.out) | exact HB.out))))
               have n11_ := Aside0.mk (blk_below (g := gb344) (o := .cells #[.slice (some ad359) l0_0.length c0_0, .slice A0_1 l0_1.length c0_1] 25 (0, 0)) (zB BK344.out) hb)
               have n12_ := Aside0.mk (blk_below (g := gb354) (o := .cells #[.slice Ao42 t348.length co42, .slice Ao45 t351.length co45] 25 (0, 0)) (zB BK354.out) hb)
               have n13_ := Aside0.mk (blk_below (g := gb373) (o := .cells #[.slice Ao86 t367.length co86, .slice Ao90 t370.length co90] 25 (0, 0)) (zB BK373.out) hb)
               have n14_ := Aside0.mk (below_step (by repeat (first | (with_reducible first | exact HB.out | apply pA | apply pN | apply pD | refine pS ?_ GE344.out | refine pS ?_ GE354.out | refine pS ?_ GE373.out) | exact HB.out)) hb)
               clear HO_9
               clear HO_11
               clear HO_12
               clear HO_345000
               clear HO_345001
               clear HO_355000
               clear HO_355001
               clear HO369
               clear HO372
               clear BK344
               clear BK354
               clear BK373
               clear HB
               have HO_9 := n0_
               have HO_11 := n1_
               have HO_12 := n2_
               have HO_345000 := n3_
               have HO_345001 := n4_
               have HO_355000 := n5_
               have HO_355001 := n6_
               have HO369 := n7_
               have HO372 := n8_
               have HO377 := n9_
               have HO380 := n10_
               have BK344 := n11_
               have BK354 := n12_
               have BK373 := n13_
               have HB := n14_
               clear n0_ n1_ n2_ n3_ n4_ n5_ n6_ n7_ n8_ n9_ n10_ n11_ n12_ n13_ n14_
               (try clear hb)
               (try clear hb2)
               (try clear hk)
               (try clear hi)
               (try clear ho0)
               (try clear ho1)
               obtain ⟨Ao103, co103, eo103⟩ := Kd.N_slice HO377.out
               (first | subst eo103 | (injection eo103 with f1_ f2_ f3_; have f4_ := f1_.symm; have f5_ := f3_.symm; clear f1_ f2_ f3_; subst f4_; subst f5_))
               obtain ⟨Ao104, co104, eo104⟩ := Kd.N_slice HO380.out
               (first | subst eo104 | (injection eo104 with f1_ f2_ f3_; have f4_ := f1_.symm; have f5_ := f3_.symm; clear f1_ f2_ f3_; subst f4_; subst f5_))
               refine hK.out _ _ ⟨(blk_cell BK354.out 0).trans rfl, (blk_cell BK354.out 1).trans rfl, (blk_cell BK344.out 0).trans rfl, (blk_cell BK344.out 1).trans rfl, (blk_cell BK373.out 0).trans rfl, (blk_cell BK373.out 1).trans rfl⟩ (fun hHeld => ?_)
               clear hK K
               refine norm_ (a' := ?_) ?_ ?_
               rotate_left
               ·show Act.put _ (some 111) _ = _
                simp only [Act.put, sT, s0, s1, i64_w, i32_w]
                rfl
               refine one_ (i := 19) (N := some 113) #[oI, oI, oI, oI, oI, oI, oI, oI, oI, oI, oI, oI, oI, oI, oI, oI, oI, oI, oI, oI, oO, oO] rfl rfl (one_of HT_.out (by kernel_rfl)) (by decide) (fun K hK => ?_)
               refine goes_ Try.func16 (by kernel_rfl) rfl #[.agg #[.slice Ao103 t375.length co103, .slice Ao104 t378.length co104], .agg #[.slice Ao86 t367.length co86, .slice Ao90 t370.length co90]] (by rfl) rfl rfl (by (try simp only [List.map_toArray, List.map_cons, List.map_nil]); first | done | rfl | (simp only [List.length_drop, List.length_take]; rfl)) ?_
               with_reducible refine (portreeveref03_Same.calls k2 _ _ t375 _ _ t378 _ _ t367 _ _ t370 t381 _ ?side1 ?side2 ?side3 ?side4 ?side5 ?side6 ?side7 ?side8 A96.out).mono ?_
               (case side1 => repeat (first | exact (Kd.N_reads' HO377.out).2.2 | (with_reducible refine Kd.C_alloc ?_ _) | (with_reducible refine Kd.C_drewN ?_ _) | (with_reducible refine Kd.C_drew ?_)))
               (case side2 => exact (Kd.N_reads' HO377.out).2.1)
               (case side3 => repeat (first | exact (Kd.N_reads' HO380.out).2.2 | (with_reducible refine Kd.C_alloc ?_ _) | (with_reducible refine Kd.C_drewN ?_ _) | (with_reducible refine Kd.C_drew ?_)))
               (case side4 => exact (Kd.N_reads' HO380.out).2.1)
               (case side5 => repeat (first | exact (Kd.N_reads' HO369.out).2.2 | (with_reducible refine Kd.C_alloc ?_ _) | (with_reducible refine Kd.C_drewN ?_ _) | (with_reducible refine Kd.C_drew ?_)))
               (case side6 => exact (Kd.N_reads' HO369.out).2.1)
               (case side7 => repeat (first | exact (Kd.N_reads' HO372.out).2.2 | (with_reducible refine Kd.C_alloc ?_ _) | (with_reducible refine Kd.C_drewN ?_ _) | (with_reducible refine Kd.C_drew ?_)))
               (case side8 => exact (Kd.N_reads' HO372.out).2.1)
               rintro e w105 ⟨rfl, hb⟩
               refine ⟨_, rfl, ?_⟩
               have n0_ := Aside0.mk (Kd.R_below (zR HO_9.out) hb)
               have n1_ := Aside0.mk (Kd.V_below (zV HO_11.out) hb)
               have n2_ := Aside0.mk (Kd.R_below (zR HO_12.out) hb)
               have n3_ := Aside0.mk (Kd.V_below (zV HO_345000.out) hb)
               have n4_ := Aside0.mk (Kd.V_below (zV HO_345001.out) hb)
               have n5_ := Aside0.mk (Kd.N_below (zN HO_355000.out) hb)
               have n6_ := Aside0.mk (Kd.N_below (zN HO_355001.out) hb)
               have n7_ := Aside0.mk (Kd.N_below (zN HO369.out) hb)
               have n8_ := Aside0.mk (Kd.N_below (zN HO372.out) hb)
               have n9_ := Aside0.mk (Kd.N_below (zN HO377.out) hb)
               have n10_ := Aside0.mk (Kd.N_below (zN HO380.out) hb)
               have n11_ := Aside0.mk (blk_below (g := gb344) (o := .cells #[.slice (some ad359) l0_0.length c0_0, .slice A0_1 l0_1.length c0_1] 25 (0, 0)) (zB BK344.out) hb)
               have n12_ := Aside0.mk (blk_below (g := gb354) (o := .cells #[.slice Ao42 t348.length co42, .slice Ao45 t351.length co45] 25 (0, 0)) (zB BK354.out) hb)
               have n13_ := Aside0.mk (blk_below (g := gb373) (o := .cells #[.slice Ao86 t367.length co86, .slice Ao90 t370.length co90] 25 (0, 0)) (zB BK373.out) hb)
               have n14_ := Aside0.mk (below_step (by repeat (first | (with_reducible first | exact HB.out | apply pA | apply pN | apply pD | refine pS ?_ GE344.out | refine pS ?_ GE354.out | refine pS ?_ GE373.out) | exact HB.out)) hb)
               clear HO_9
               clear HO_11
               clear HO_12
               clear HO_345000
               clear HO_345001
               clear HO_355000
               clear HO_355001
               clear HO369
               clear HO372
               clear HO377
               clear HO380
               clear BK344
               clear BK354
               clear BK373
               clear HB
               have HO_9 := n0_
               have HO_11 := n1_
               have HO_12 := n2_
               have HO_345000 := n3_
               have HO_345001 := n4_
               have HO_355000 := n5_
               have HO_355001 := n6_
               have HO369 := n7_
               have HO372 := n8_
               have HO377 := n9_
               have HO380 := n10_
               have BK344 := n11_
               have BK354 := n12_
               have BK373 := n13_
               have HB := n14_
               clear n0_ n1_ n2_ n3_ n4_ n5_ n6_ n7_ n8_ n9_ n10_ n11_ n12_ n13_ n14_
               (try clear hb)
               (try clear hb2)
               (try clear hk)
               (try clear hi)
               refine hK.out _ _ ⟨(blk_cell BK354.out 0).trans rfl, (blk_cell BK354.out 1).trans rfl, (blk_cell BK344.out 0).trans rfl, (blk_cell BK344.out 1).trans rfl, (blk_cell BK373.out 0).trans rfl, (blk_cell BK373.out 1).trans rfl⟩ (fun hHeld => ?_)
               clear hK K
               refine norm_ (a' := ?_) ?_ ?_
               rotate_left
               ·show Act.put _ (some 113) _ = _
                simp only [Act.put, sT, s0, s1, i64_w, i32_w]
                rfl
               refine pure_ (i := 20) (N := some 114) (v := ?_) (a' := ?_) #[oI, oI, oI, oI, oI, oI, oI, oI, oI, oI, oI, oI, oI, oI, oI, oI, oI, oI, oI, oI, oI, oO] rfl rfl (any_of HT_.out (by kernel_rfl)) (fun _ _ _ h => h) (Or.inl ⟨by rfl, ?_⟩) ?_ ?_
               rotate_left
               ·intro w'
                go_simp
                with_reducible rfl
               rotate_left
               ·simp only [Act.put, sT, s0, s1, i64_w, i32_w]
                rfl
               refine pure_ (i := 21) (N := some 115) (v := ?_) (a' := ?_) #[oI, oI, oI, oI, oI, oI, oI, oI, oI, oI, oI, oI, oI, oI, oI, oI, oI, oI, oI, oI, oI, oI] rfl rfl (any_of HT_.out (by kernel_rfl)) (fun _ _ _ h => h) (Or.inl ⟨by rfl, ?_⟩) ?_ ?_
               rotate_left
               ·intro w'
                go_simp
                with_reducible rfl
               rotate_left
               ·simp only [Act.put, sT, s0, s1, i64_w, i32_w]
                rfl
               refine done_ (done_of HT_.out (by kernel_rfl)) ?_
               try go_wp2
               go_meet
               case rel => exact ⟨_, (!t381), (by first | rfl | (simp; done) | (simp [*]; done)), H', ⟨by have := HJ4.out; have := HK2.out; first | omega | exact Nat.le_refl _⟩, ⟨zV (Kd.V_mono HO_345000.out (fun _ hk => ⟨hk.1.1.1, ⟨hk.1.1.2.2.2.1, ⟨hk.1.1.2.2.2.2.1, ⟨hk.1.1.2.2.2.2.2.1, ⟨hk.1.1.2.2.2.2.2.2.1, ⟨hk.1.1.2.2.2.2.2.2.2.1, ⟨hk.1.1.2.2.2.2.2.2.2.2.1, hk.1.1.2.2.2.2.2.2.2.2.2⟩⟩⟩⟩⟩⟩⟩))⟩, ⟨zV (Kd.V_mono HO_345001.out (fun _ hk => ⟨hk.1.1.1, ⟨hk.1.1.2.2.2.1, ⟨hk.1.1.2.2.2.2.1, ⟨hk.1.1.2.2.2.2.2.1, ⟨hk.1.1.2.2.2.2.2.2.1, ⟨hk.1.1.2.2.2.2.2.2.2.1, ⟨hk.1.1.2.2.2.2.2.2.2.2.1, hk.1.1.2.2.2.2.2.2.2.2.2⟩⟩⟩⟩⟩⟩⟩))⟩, ⟨zN (Kd.N_mono HO_355000.out (fun _ hk => ⟨hk.1.1.1, ⟨hk.1.1.2.2.2.1, ⟨hk.1.1.2.2.2.2.1, ⟨hk.1.1.2.2.2.2.2.1, ⟨hk.1.1.2.2.2.2.2.2.1, ⟨hk.1.1.2.2.2.2.2.2.2.1, hk.1.1.2.2.2.2.2.2.2.2⟩⟩⟩⟩⟩⟩))⟩, ⟨zN (Kd.N_mono HO_355001.out (fun _ hk => ⟨hk.1.1.1, ⟨hk.1.1.2.2.2.1, ⟨hk.1.1.2.2.2.2.1, ⟨hk.1.1.2.2.2.2.2.1, ⟨hk.1.1.2.2.2.2.2.2.1, ⟨hk.1.1.2.2.2.2.2.2.2.1, hk.1.1.2.2.2.2.2.2.2.2⟩⟩⟩⟩⟩⟩))⟩, ⟨zN (Kd.N_mono HO369.out (fun _ hk => ⟨hk.1.1.1, ⟨hk.1.1.2.2.2.1, ⟨hk.1.1.2.2.2.2.1, ⟨hk.1.1.2.2.2.2.2.1, ⟨hk.1.1.2.2.2.2.2.2.1, ⟨hk.1.1.2.2.2.2.2.2.2.1, hk.1.1.2.2.2.2.2.2.2.2⟩⟩⟩⟩⟩⟩))⟩, ⟨zN (Kd.N_mono HO372.out (fun _ hk => ⟨hk.1.1.1, ⟨hk.1.1.2.2.2.1, ⟨hk.1.1.2.2.2.2.1, ⟨hk.1.1.2.2.2.2.2.1, ⟨hk.1.1.2.2.2.2.2.2.1, ⟨hk.1.1.2.2.2.2.2.2.2.1, hk.1.1.2.2.2.2.2.2.2.2⟩⟩⟩⟩⟩⟩))⟩, ⟨zB BK344.out⟩, ⟨zB BK354.out⟩, ⟨zB BK373.out⟩, ⟨by repeat (first | (with_reducible first | exact HB.out | apply pA | apply pN | apply pD | refine pS ?_ GE344.out | refine pS ?_ GE354.out | refine pS ?_ GE373.out) | exact HB.out)⟩⟩
              ·rw [if_neg c94] at H
               have c94b0 : ((t351.length : Int) == 0) = false := beq_eq_false_iff_ne.mpr c94
               have c94b1 : ((t351.length : Int) != 0) = true := bne_iff_ne.mpr c94
               have c94b2 : ¬ (t351 = []) := fun h_ => c94 (by rw [h_]; rfl)
               have H' := Aside0.mk H
               clear H
               try go_wp2
               have n0_ : Aside0 (Kd.R (Kd.int .u8) 5 ((w85.setCell ⟨gb373, 0, none⟩ (.slice Ao86 t367.length co86)).setCell ⟨gb373, 1, none⟩ (.slice Ao90 t370.length co90)) w.heap.size (fun k_ => (w.heap.size ≤ k_)) v356 t355) := ⟨zR (Kd.R_mono (Kd.R_far (p := ⟨gb373, 1, none⟩) (Kd.R_far (p := ⟨gb373, 0, none⟩) (Kd.R_types HO_9.out BK373.out (by decide)) (fun _ hk => hk.2) (.slice Ao86 t367.length co86)) (fun _ hk => hk.2) (.slice Ao90 t370.length co90)) (fun _ hk => hk.1))⟩
               have n1_ : Aside0 (Kd.V (Kd.int .u8) 5 ((w85.setCell ⟨gb373, 0, none⟩ (.slice Ao86 t367.length co86)).setCell ⟨gb373, 1, none⟩ (.slice Ao90 t370.length co90)) w.heap.size (fun k_ => ((P0_0_ k_ ∨ P0_1_ k_) ∨ w.heap.size ≤ k_) ∧ some k_ ≠ (v356 : Value).ownBlock ∧ some k_ ≠ (v361 : Value).ownBlock ∧ some k_ ≠ (.slice Ao42 t348.length co42 : Value).ownBlock ∧ some k_ ≠ (.slice Ao45 t351.length co45 : Value).ownBlock ∧ some k_ ≠ (.slice Ao86 t367.length co86 : Value).ownBlock ∧ some k_ ≠ (.slice Ao90 t370.length co90 : Value).ownBlock ∧ k_ ≠ gb344 ∧ k_ ≠ gb354 ∧ k_ ≠ gb373) u11 x11_2) := ⟨zV (Kd.V_mono (Kd.V_far (p := ⟨gb373, 1, none⟩) (Kd.V_far (p := ⟨gb373, 0, none⟩) (Kd.V_mono HO_11.out (fun k_ hk => (⟨hk, hk.2⟩ : _ ∧ k_ ≠ gb373))) (fun _ hk => hk.2) (.slice Ao86 t367.length co86)) (fun _ hk => hk.2) (.slice Ao90 t370.length co90)) (fun _ hk => ⟨hk.1.1.1.1.1, ⟨hk.1.1.1.1.2.1, ⟨hk.1.1.1.1.2.2.1, ⟨hk.1.1.1.1.2.2.2.1, ⟨hk.1.1.1.1.2.2.2.2.1, ⟨hk.1.1.1.2, ⟨hk.1.1.2, ⟨hk.1.1.1.1.2.2.2.2.2.1, ⟨hk.1.1.1.1.2.2.2.2.2.2, hk.1.2⟩⟩⟩⟩⟩⟩⟩⟩⟩))⟩
               have n2_ : Aside0 (Kd.R Kd.bool 4 ((w85.setCell ⟨gb373, 0, none⟩ (.slice Ao86 t367.length co86)).setCell ⟨gb373, 1, none⟩ (.slice Ao90 t370.length co90)) w.heap.size (fun k_ => (w.heap.size ≤ k_)) v361 x12_2) := ⟨zR (Kd.R_mono (Kd.R_far (p := ⟨gb373, 1, none⟩) (Kd.R_far (p := ⟨gb373, 0, none⟩) (Kd.R_types HO_12.out BK373.out (by decide)) (fun _ hk => hk.2) (.slice Ao86 t367.length co86)) (fun _ hk => hk.2) (.slice Ao90 t370.length co90)) (fun _ hk => hk.1))⟩
               have n3_ : Aside0 (Kd.V (Kd.slice 5 (Kd.int .u8)) 26 ((w85.setCell ⟨gb373, 0, none⟩ (.slice Ao86 t367.length co86)).setCell ⟨gb373, 1, none⟩ (.slice Ao90 t370.length co90)) w.heap.size (fun k_ => ((P0_0_ k_ ∨ P0_1_ k_) ∨ w.heap.size ≤ k_) ∧ some k_ ≠ (v356 : Value).ownBlock ∧ some k_ ≠ (v361 : Value).ownBlock ∧ some k_ ≠ (.slice Ao42 t348.length co42 : Value).ownBlock ∧ some k_ ≠ (.slice Ao45 t351.length co45 : Value).ownBlock ∧ some k_ ≠ (.slice Ao86 t367.length co86 : Value).ownBlock ∧ some k_ ≠ (.slice Ao90 t370.length co90 : Value).ownBlock ∧ k_ ≠ gb344 ∧ k_ ≠ gb354 ∧ k_ ≠ gb373) (.slice (some ad359) l0_0.length c0_0) l0_0) := ⟨zV (Kd.V_mono (Kd.V_far (p := ⟨gb373, 1, none⟩) (Kd.V_far (p := ⟨gb373, 0, none⟩) (Kd.V_mono HO_345000.out (fun k_ hk => (⟨hk, hk.2⟩ : _ ∧ k_ ≠ gb373))) (fun _ hk => hk.2) (.slice Ao86 t367.length co86)) (fun _ hk => hk.2) (.slice Ao90 t370.length co90)) (fun _ hk => ⟨hk.1.1.1.1.1, ⟨hk.1.1.1.1.2.1, ⟨hk.1.1.1.1.2.2.1, ⟨hk.1.1.1.1.2.2.2.1, ⟨hk.1.1.1.1.2.2.2.2.1, ⟨hk.1.1.1.2, ⟨hk.1.1.2, ⟨hk.1.1.1.1.2.2.2.2.2.1, ⟨hk.1.1.1.1.2.2.2.2.2.2, hk.1.2⟩⟩⟩⟩⟩⟩⟩⟩⟩))⟩
               have n4_ : Aside0 (Kd.V k47 47 ((w85.setCell ⟨gb373, 0, none⟩ (.slice Ao86 t367.length co86)).setCell ⟨gb373, 1, none⟩ (.slice Ao90 t370.length co90)) w.heap.size (fun k_ => ((P0_0_ k_ ∨ P0_1_ k_) ∨ w.heap.size ≤ k_) ∧ some k_ ≠ (v356 : Value).ownBlock ∧ some k_ ≠ (v361 : Value).ownBlock ∧ some k_ ≠ (.slice Ao42 t348.length co42 : Value).ownBlock ∧ some k_ ≠ (.slice Ao45 t351.length co45 : Value).ownBlock ∧ some k_ ≠ (.slice Ao86 t367.length co86 : Value).ownBlock ∧ some k_ ≠ (.slice Ao90 t370.length co90 : Value).ownBlock ∧ k_ ≠ gb344 ∧ k_ ≠ gb354 ∧ k_ ≠ gb373) (.slice A0_1 l0_1.length c0_1) l0_1) := ⟨zV (Kd.V_mono (Kd.V_far (p := ⟨gb373, 1, none⟩) (Kd.V_far (p := ⟨gb373, 0, none⟩) (Kd.V_mono HO_345001.out (fun k_ hk => (⟨hk, hk.2⟩ : _ ∧ k_ ≠ gb373))) (fun _ hk => hk.2) (.slice Ao86 t367.length co86)) (fun _ hk => hk.2) (.slice Ao90 t370.length co90)) (fun _ hk => ⟨hk.1.1.1.1.1, ⟨hk.1.1.1.1.2.1, ⟨hk.1.1.1.1.2.2.1, ⟨hk.1.1.1.1.2.2.2.1, ⟨hk.1.1.1.1.2.2.2.2.1, ⟨hk.1.1.1.2, ⟨hk.1.1.2, ⟨hk.1.1.1.1.2.2.2.2.2.1, ⟨hk.1.1.1.1.2.2.2.2.2.2, hk.1.2⟩⟩⟩⟩⟩⟩⟩⟩⟩))⟩
               have n5_ : Aside0 (Kd.N (Kd.slice 5 (Kd.int .u8)) 26 ((w85.setCell ⟨gb373, 0, none⟩ (.slice Ao86 t367.length co86)).setCell ⟨gb373, 1, none⟩ (.slice Ao90 t370.length co90)) w.heap.size (fun k_ => ((P0_0_ k_ ∨ P0_1_ k_) ∨ w.heap.size ≤ k_) ∧ some k_ ≠ (v356 : Value).ownBlock ∧ some k_ ≠ (v361 : Value).ownBlock ∧ some k_ ≠ (.slice Ao45 t351.length co45 : Value).ownBlock ∧ some k_ ≠ (.slice Ao86 t367.length co86 : Value).ownBlock ∧ some k_ ≠ (.slice Ao90 t370.length co90 : Value).ownBlock ∧ k_ ≠ gb344 ∧ k_ ≠ gb354 ∧ k_ ≠ gb373) (.slice Ao42 t348.length co42) t348) := ⟨zN (Kd.N_mono (Kd.N_far (p := ⟨gb373, 1, none⟩) (Kd.N_far (p := ⟨gb373, 0, none⟩) (Kd.N_mono HO_355000.out (fun k_ hk => (⟨hk, hk.2⟩ : _ ∧ k_ ≠ gb373))) (fun _ hk => hk.2) (.slice Ao86 t367.length co86)) (fun _ hk => hk.2) (.slice Ao90 t370.length co90)) (fun _ hk => ⟨hk.1.1.1.1.1, ⟨hk.1.1.1.1.2.1, ⟨hk.1.1.1.1.2.2.1, ⟨hk.1.1.1.1.2.2.2.1, ⟨hk.1.1.1.2, ⟨hk.1.1.2, ⟨hk.1.1.1.1.2.2.2.2.1, ⟨hk.1.1.1.1.2.2.2.2.2, hk.1.2⟩⟩⟩⟩⟩⟩⟩⟩))⟩
               have n6_ : Aside0 (Kd.N k47 47 ((w85.setCell ⟨gb373, 0, none⟩ (.slice Ao86 t367.length co86)).setCell ⟨gb373, 1, none⟩ (.slice Ao90 t370.length co90)) w.heap.size (fun k_ => ((P0_0_ k_ ∨ P0_1_ k_) ∨ w.heap.size ≤ k_) ∧ some k_ ≠ (v356 : Value).ownBlock ∧ some k_ ≠ (v361 : Value).ownBlock ∧ some k_ ≠ (.slice Ao42 t348.length co42 : Value).ownBlock ∧ some k_ ≠ (.slice Ao86 t367.length co86 : Value).ownBlock ∧ some k_ ≠ (.slice Ao90 t370.length co90 : Value).ownBlock ∧ k_ ≠ gb344 ∧ k_ ≠ gb354 ∧ k_ ≠ gb373) (.slice Ao45 t351.length co45) t351) := ⟨zN (Kd.N_mono (Kd.N_far (p := ⟨gb373, 1, none⟩) (Kd.N_far (p := ⟨gb373, 0, none⟩) (Kd.N_mono HO_355001.out (fun k_ hk => (⟨hk, hk.2⟩ : _ ∧ k_ ≠ gb373))) (fun _ hk => hk.2) (.slice Ao86 t367.length co86)) (fun _ hk => hk.2) (.slice Ao90 t370.length co90)) (fun _ hk => ⟨hk.1.1.1.1.1, ⟨hk.1.1.1.1.2.1, ⟨hk.1.1.1.1.2.2.1, ⟨hk.1.1.1.1.2.2.2.1, ⟨hk.1.1.1.2, ⟨hk.1.1.2, ⟨hk.1.1.1.1.2.2.2.2.1, ⟨hk.1.1.1.1.2.2.2.2.2, hk.1.2⟩⟩⟩⟩⟩⟩⟩⟩))⟩
               have n7_ : Aside0 (Kd.N (Kd.slice 5 (Kd.int .u8)) 26 ((w85.setCell ⟨gb373, 0, none⟩ (.slice Ao86 t367.length co86)).setCell ⟨gb373, 1, none⟩ (.slice Ao90 t370.length co90)) w.heap.size (fun k_ => ((P0_0_ k_ ∨ P0_1_ k_) ∨ w.heap.size ≤ k_) ∧ some k_ ≠ (v356 : Value).ownBlock ∧ some k_ ≠ (v361 : Value).ownBlock ∧ some k_ ≠ (.slice Ao42 t348.length co42 : Value).ownBlock ∧ some k_ ≠ (.slice Ao45 t351.length co45 : Value).ownBlock ∧ some k_ ≠ (.slice Ao90 t370.length co90 : Value).ownBlock ∧ k_ ≠ gb344 ∧ k_ ≠ gb354 ∧ k_ ≠ gb373) (.slice Ao86 t367.length co86) t367) := ⟨zN (Kd.N_mono (Kd.N_far (p := ⟨gb373, 1, none⟩) (Kd.N_far (p := ⟨gb373, 0, none⟩) (Kd.N_mono HO369.out (fun k_ hk => (⟨hk, hk.2⟩ : _ ∧ k_ ≠ gb373))) (fun _ hk => hk.2) (.slice Ao86 t367.length co86)) (fun _ hk => hk.2) (.slice Ao90 t370.length co90)) (fun _ hk => ⟨hk.1.1.1, ⟨hk.1.1.2.2.1, ⟨hk.1.1.2.2.2.1, ⟨hk.1.1.2.2.2.2.1, ⟨hk.1.1.2.2.2.2.2.1, ⟨hk.1.1.2.1, ⟨hk.1.1.2.2.2.2.2.2.1, ⟨hk.1.1.2.2.2.2.2.2.2, hk.1.2⟩⟩⟩⟩⟩⟩⟩⟩))⟩
               have n8_ : Aside0 (Kd.N k47 47 ((w85.setCell ⟨gb373, 0, none⟩ (.slice Ao86 t367.length co86)).setCell ⟨gb373, 1, none⟩ (.slice Ao90 t370.length co90)) w.heap.size (fun k_ => ((P0_0_ k_ ∨ P0_1_ k_) ∨ w.heap.size ≤ k_) ∧ some k_ ≠ (v356 : Value).ownBlock ∧ some k_ ≠ (v361 : Value).ownBlock ∧ some k_ ≠ (.slice Ao42 t348.length co42 : Value).ownBlock ∧ some k_ ≠ (.slice Ao45 t351.length co45 : Value).ownBlock ∧ some k_ ≠ (.slice Ao86 t367.length co86 : Value).ownBlock ∧ k_ ≠ gb344 ∧ k_ ≠ gb354 ∧ k_ ≠ gb373) (.slice Ao90 t370.length co90) t370) := ⟨zN (Kd.N_mono (Kd.N_far (p := ⟨gb373, 1, none⟩) (Kd.N_far (p := ⟨gb373, 0, none⟩) (Kd.N_mono HO372.out (fun k_ hk => (⟨hk, hk.2⟩ : _ ∧ k_ ≠ gb373))) (fun _ hk => hk.2) (.slice Ao86 t367.length co86)) (fun _ hk => hk.2) (.slice Ao90 t370.length co90)) (fun _ hk => ⟨hk.1.1.1, ⟨hk.1.1.2.2.1, ⟨hk.1.1.2.2.2.1, ⟨hk.1.1.2.2.2.2.1, ⟨hk.1.1.2.2.2.2.2.1, ⟨hk.1.1.2.1, ⟨hk.1.1.2.2.2.2.2.2.1, ⟨hk.1.1.2.2.2.2.2.2.2, hk.1.2⟩⟩⟩⟩⟩⟩⟩⟩))⟩
               have n9_ : Aside0 (((w85.setCell ⟨gb373, 0, none⟩ (.slice Ao86 t367.length co86)).setCell ⟨gb373, 1, none⟩ (.slice Ao90 t370.length co90)).heap[gb344]? = some (.cells #[.slice (some ad359) l0_0.length c0_0, .slice A0_1 l0_1.length c0_1] 25 (0, 0))) := ⟨by (with_reducible repeat (first | refine qN ?_ _ | refine qD ?_ | refine qA ?_ _)); refine blk_far ?_ NB344_373.out _; (with_reducible repeat (first | refine qN ?_ _ | refine qD ?_ | refine qA ?_ _)); refine blk_far ?_ NB344_373.out _; (with_reducible repeat (first | refine qN ?_ _ | refine qD ?_ | refine qA ?_ _)); exact BK344.out⟩
               have n10_ : Aside0 (((w85.setCell ⟨gb373, 0, none⟩ (.slice Ao86 t367.length co86)).setCell ⟨gb373, 1, none⟩ (.slice Ao90 t370.length co90)).heap[gb354]? = some (.cells #[.slice Ao42 t348.length co42, .slice Ao45 t351.length co45] 25 (0, 0))) := ⟨by (with_reducible repeat (first | refine qN ?_ _ | refine qD ?_ | refine qA ?_ _)); refine blk_far ?_ NB354_373.out _; (with_reducible repeat (first | refine qN ?_ _ | refine qD ?_ | refine qA ?_ _)); refine blk_far ?_ NB354_373.out _; (with_reducible repeat (first | refine qN ?_ _ | refine qD ?_ | refine qA ?_ _)); exact BK354.out⟩
               have n11_ : Aside0 (((w85.setCell ⟨gb373, 0, none⟩ (.slice Ao86 t367.length co86)).setCell ⟨gb373, 1, none⟩ (.slice Ao90 t370.length co90)).heap[gb373]? = some (.cells #[.slice Ao86 t367.length co86, .slice Ao90 t370.length co90] 25 (0, 0))) := ⟨by (with_reducible repeat (first | refine qN ?_ _ | refine qD ?_ | refine qA ?_ _)); refine blk_put (cs := #[.slice Ao86 t367.length co86, .slice none 0 0]) ?_ 1 _ rfl; (with_reducible repeat (first | refine qN ?_ _ | refine qD ?_ | refine qA ?_ _)); refine blk_put (cs := #[.slice none 0 0, .slice none 0 0]) ?_ 0 _ rfl; (with_reducible repeat (first | refine qN ?_ _ | refine qD ?_ | refine qA ?_ _)); exact BK373.out⟩
               have n12_ : Aside0 (Below w.heap.size w ((w85.setCell ⟨gb373, 0, none⟩ (.slice Ao86 t367.length co86)).setCell ⟨gb373, 1, none⟩ (.slice Ao90 t370.length co90))) := ⟨by repeat (first | (with_reducible first | exact HB.out | apply pA | apply pN | apply pD | refine pS ?_ GE344.out | refine pS ?_ GE354.out | refine pS ?_ GE373.out) | exact HB.out)⟩
               (try clear HO_9)
               (try clear HO_11)
               (try clear HO_12)
               (try clear HO_345000)
               (try clear HO_345001)
               (try clear HO_355000)
               (try clear HO_355001)
               (try clear HO369)
               (try clear HO372)
               (try clear BK344)
               (try clear BK354)
               (try clear BK373)
               (try clear HB)
               generalize ((w85.setCell ⟨gb373, 0, none⟩ (.slice Ao86 t367.length co86)).setCell ⟨gb373, 1, none⟩ (.slice Ao90 t370.length co90)) = w106 at n0_ n1_ n2_ n3_ n4_ n5_ n6_ n7_ n8_ n9_ n10_ n11_ n12_ ⊢
               have HO_9 := n0_
               have HO_11 := n1_
               have HO_12 := n2_
               have HO_345000 := n3_
               have HO_345001 := n4_
               have HO_355000 := n5_
               have HO_355001 := n6_
               have HO369 := n7_
               have HO372 := n8_
               have BK344 := n9_
               have BK354 := n10_
               have BK373 := n11_
               have HB := n12_
               clear n0_ n1_ n2_ n3_ n4_ n5_ n6_ n7_ n8_ n9_ n10_ n11_ n12_
               have n0_ := Aside0.mk (Kd.R_drew HO_9.out)
               have n1_ := Aside0.mk (Kd.V_drew HO_11.out)
               have n2_ := Aside0.mk (Kd.R_drew HO_12.out)
               have n3_ := Aside0.mk (Kd.V_drew HO_345000.out)
               have n4_ := Aside0.mk (Kd.V_drew HO_345001.out)
               have n5_ := Aside0.mk (Kd.N_drew HO_355000.out)
               have n6_ := Aside0.mk (Kd.N_drew HO_355001.out)
               have n7_ := Aside0.mk (Kd.N_drew HO369.out)
               have n8_ := Aside0.mk (Kd.N_drew HO372.out)
               have n9_ := Aside0.mk (qD BK344.out)
               have n10_ := Aside0.mk (qD BK354.out)
               have n11_ := Aside0.mk (qD BK373.out)
               have n12_ := Aside0.mk (pD HB.out)
               clear HO_9
               clear HO_11
               clear HO_12
               clear HO_345000
               clear HO_345001
               clear HO_355000
               clear HO_355001
               clear HO369
               clear HO372
               clear BK344
               clear BK354
               clear BK373
               clear HB
               have HO_9 := n0_
               have HO_11 := n1_
               have HO_12 := n2_
               have HO_345000 := n3_
               have HO_345001 := n4_
               have HO_355000 := n5_
               have HO_355001 := n6_
               have HO369 := n7_
               have HO372 := n8_
               have BK344 := n9_
               have BK354 := n10_
               have BK373 := n11_
               have HB := n12_
               clear n0_ n1_ n2_ n3_ n4_ n5_ n6_ n7_ n8_ n9_ n10_ n11_ n12_
               obtain ⟨Ao108, co108, eo108⟩ := Kd.R_slice HO_9.out
               (first | subst eo108 | (injection eo108 with f1_ f2_ f3_; have f4_ := f1_.symm; have f5_ := f3_.symm; clear f1_ f2_ f3_; subst f4_; subst f5_))
               obtain ⟨Ao109, co109, eo109⟩ := Kd.V_slice HO_11.out
               (first | subst eo109 | (injection eo109 with f1_ f2_ f3_; have f4_ := f1_.symm; have f5_ := f3_.symm; clear f1_ f2_ f3_; subst f4_; subst f5_))
               refine start_ (n := 22) (S := fun w' => w'.cell? ⟨gb354, 0, none⟩ = some (.slice Ao42 t348.length co42) ∧ w'.cell? ⟨gb354, 1, none⟩ = some (.slice Ao45 t351.length co45)) (ds := []) #[oO, oO, oO, oO, oO, oO, oO, oO, oO, oO, oO, oO, oO, oO, oO, oO, oO, oO, oO, oO, oO, oO] (by kernel_rfl) rfl rfl ⟨(blk_cell BK354.out 0).trans rfl, (blk_cell BK354.out 1).trans rfl⟩ (fun hHeld => ?_); refine with_tabW portreevelaw03_DiskCrashes.tab15 portreevelaw03_DiskCrashes.bits15 (fun HT_ HW_ => ?_)
               generalize w106.drew = w107 at HO_9 HO_11 HO_12 HO_345000 HO_345001 HO_355000 HO_355001 HO369 HO372 BK344 BK354 BK373 HB hHeld ⊢
               refine pure_ (i := 0) (N := some 94) (v := ?_) (a' := ?_) #[oI, oO, oO, oO, oO, oO, oO, oO, oO, oO, oO, oO, oO, oO, oO, oO, oO, oO, oO, oO, oO, oO] rfl rfl (any_of HT_.out (by kernel_rfl)) (fun _ _ _ h => h) (Or.inl ⟨by rfl, ?_⟩) ?_ ?_
               rotate_left
               ·intro w'
                go_simp
                with_reducible rfl
               rotate_left
               ·simp only [Act.put, sT, s0, s1, i64_w, i32_w]
                rfl
               refine pure_ (i := 1) (N := some 95) (v := ?_) (a' := ?_) #[oI, oI, oO, oO, oO, oO, oO, oO, oO, oO, oO, oO, oO, oO, oO, oO, oO, oO, oO, oO, oO, oO] rfl rfl (any_of HT_.out (by kernel_rfl)) (fun _ _ _ h => h) (Or.inl ⟨by rfl, ?_⟩) ?_ ?_
               rotate_left
               ·intro w'
                go_simp
                with_reducible rfl
               rotate_left
               ·simp only [Act.put, sT, s0, s1, i64_w, i32_w]
                rfl
               refine pure_ (i := 2) (N := some 96) (v := ?_) (a' := ?_) #[oI, oI, oI, oO, oO, oO, oO, oO, oO, oO, oO, oO, oO, oO, oO, oO, oO, oO, oO, oO, oO, oO] rfl rfl (any_of HT_.out (by kernel_rfl)) (fun _ _ _ h => h) (Or.inl ⟨by rfl, ?_⟩) ?_ ?_
               rotate_left
               ·intro w'
                go_simp
                with_reducible rfl
               rotate_left
               ·simp only [Act.put, sT, s0, s1, i64_w, i32_w]
                rfl
               refine pure_ (i := 3) (N := some 97) (v := ?_) (a' := ?_) #[oI, oI, oI, oI, oO, oO, oO, oO, oO, oO, oO, oO, oO, oO, oO, oO, oO, oO, oO, oO, oO, oO] rfl rfl (any_of HT_.out (by kernel_rfl)) (fun _ _ _ h => h) (Or.inl ⟨by rfl, ?_⟩) ?_ ?_
               rotate_left
               ·intro w'
                go_simp
                with_reducible rfl
               rotate_left
               ·simp only [Act.put, sT, s0, s1, i64_w, i32_w]
                rfl
               refine pure_ (i := 4) (N := some 98) (v := ?_) (a' := ?_) #[oI, oI, oI, oI, oI, oO, oO, oO, oO, oO, oO, oO, oO, oO, oO, oO, oO, oO, oO, oO, oO, oO] rfl rfl (any_of HT_.out (by kernel_rfl)) (fun _ _ _ h => h) (Or.inl ⟨by rfl, ?_⟩) ?_ ?_
               rotate_left
               ·intro w'
                go_simp
                with_reducible rfl
               rotate_left
               ·simp only [Act.put, sT, s0, s1, i64_w, i32_w]
                rfl
               refine one_ (i := 5) (N := some 99) #[oI, oI, oI, oI, oI, oI, oO, oO, oO, oO, oO, oO, oO, oO, oO, oO, oO, oO, oO, oO, oO, oO] rfl rfl (one_of HT_.out (by kernel_rfl)) (by decide) (fun K hK => ?_)
               refine goes_ Try.func17 (by kernel_rfl) rfl #[.slice Ao108 t355.length co108, .slice Ao109 x11_2.length co109] (by rfl) rfl rfl (by (try simp only [List.map_toArray, List.map_cons, List.map_nil]); first | done | rfl | (simp only [List.length_drop, List.length_take]; rfl)) ?_
               with_reducible refine (portreeveref01_Row.calls k2 _ _ t355 _ _ x11_2 true _ ?side1 ?side2 ?side3 ?side4 A92.out).mono ?_
               (case side1 => repeat (first | exact (Kd.R_reads' HO_9.out).2.2 | (with_reducible refine Kd.C_alloc ?_ _) | (with_reducible refine Kd.C_drewN ?_ _) | (with_reducible refine Kd.C_drew ?_)))
               (case side2 => exact (Kd.R_reads' HO_9.out).2.1)
               (case side3 => repeat (first | exact (Kd.V_reads' HO_11.out).2.2 | (with_reducible refine Kd.C_alloc ?_ _) | (with_reducible refine Kd.C_drewN ?_ _) | (with_reducible refine Kd.C_drew ?_)))
               (case side4 => exact (Kd.V_reads' HO_11.out).2.1)
               rintro e w' ⟨rfl, ⟨nd, rfl⟩⟩
               refine ⟨_, rfl, ?_⟩
               refine hK.out _ _ ⟨(blk_cell BK354.out 0).trans rfl, (blk_cell BK354.out 1).trans rfl⟩ (fun hHeld => ?_)
               clear hK K
               refine norm_ (a' := ?_) ?_ ?_
               rotate_left
               ·show Act.put _ (some 99) _ = _
                simp only [Act.put, sT, s0, s1, i64_w, i32_w]
                rfl
               refine pure_ (i := 6) (N := some 100) (v := ?_) (a' := ?_) #[oI, oI, oI, oI, oI, oI, oI, oO, oO, oO, oO, oO, oO, oO, oO, oO, oO, oO, oO, oO, oO, oO] rfl rfl (any_of HT_.out (by kernel_rfl)) (fun _ _ _ h => h) (Or.inl ⟨by rfl, ?_⟩) ?_ ?_
               rotate_left
               ·intro w'
                go_simp
                with_reducible rfl
               rotate_left
               ·simp only [Act.put, sT, s0, s1, i64_w, i32_w]
                rfl
               refine pure_ (i := 7) (N := some 101) (v := ?_) (a' := ?_) #[oI, oI, oI, oI, oI, oI, oI, oI, oO, oO, oO, oO, oO, oO, oO, oO, oO, oO, oO, oO, oO, oO] rfl rfl (any_of HT_.out (by kernel_rfl)) (fun _ _ _ h => h) (Or.inl ⟨by rfl, ?_⟩) ?_ ?_
               rotate_left
               ·intro w'
                go_simp
                with_reducible rfl
               rotate_left
               ·simp only [Act.put, sT, s0, s1, i64_w, i32_w]
                rfl
               refine pure_ (i := 8) (N := some 102) (v := ?_) (a' := ?_) #[oI, oI, oI, oI, oI, oI, oI, oI, oI, oO, oO, oO, oO, oO, oO, oO, oO, oO, oO, oO, oO, oO] rfl rfl (any_of HT_.out (by kernel_rfl)) (fun _ _ _ h => h) (Or.inl ⟨by rfl, ?_⟩) ?_ ?_
               rotate_left
               ·intro w'
                go_simp
                with_reducible rfl
               rotate_left
               ·simp only [Act.put, sT, s0, s1, i64_w, i32_w]
                rfl
               refine pure_ (i := 9) (N := some 103) (v := ?_) (a' := ?_) #[oI, oI, oI, oI, oI, oI, oI, oI, oI, oI, oO, oO, oO, oO, oO, oO, oO, oO, oO, oO, oO, oO] rfl rfl (any_of HT_.out (by kernel_rfl)) (fun _ _ _ h => h) (Or.inl ⟨by rfl, ?_⟩) ?_ ?_
               rotate_left
               ·intro w'
                go_simp
                with_reducible rfl
               rotate_left
               ·simp only [Act.put, sT, s0, s1, i64_w, i32_w]
                rfl
               refine take_ (i := 10) (N := some 104) (v := ?_) (a' := ?_) #[oI, oI, oI, oI, oI, oI, oI, oI, oI, oI, oI, oO, oO, oO, oO, oO, oO, oO, oO, oO, oO, oO] rfl rfl (take_ofW HT_.out HW_.out (by kernel_rfl)) (fun _ _ _ h => h) (Or.inl ⟨by rfl, ?_⟩) hHeld ?_ ?_
               rotate_left
               ·rintro w' ⟨s0, s1⟩
                go_simp
                with_reducible rfl
               rotate_left
               ·simp only [Act.put, sT, s0, s1, i64_w, i32_w]
                rfl
               refine pure_ (i := 11) (N := some 105) (v := ?_) (a' := ?_) #[oI, oI, oI, oI, oI, oI, oI, oI, oI, oI, oI, oI, oO, oO, oO, oO, oO, oO, oO, oO, oO, oO] rfl rfl (any_of HT_.out (by kernel_rfl)) (fun _ _ _ h => h) (Or.inl ⟨by rfl, ?_⟩) ?_ ?_
               rotate_left
               ·intro w'
                go_simp
                with_reducible rfl
               rotate_left
               ·simp only [Act.put, sT, s0, s1, i64_w, i32_w]
                rfl
               refine pure_ (i := 12) (N := some 106) (v := ?_) (a' := ?_) #[oI, oI, oI, oI, oI, oI, oI, oI, oI, oI, oI, oI, oI, oO, oO, oO, oO, oO, oO, oO, oO, oO] rfl rfl (any_of HT_.out (by kernel_rfl)) (fun _ _ _ h => h) (Or.inl ⟨by rfl, ?_⟩) ?_ ?_
               rotate_left
               ·intro w'
                go_simp
                with_reducible rfl
               rotate_left
               ·simp only [Act.put, sT, s0, s1, i64_w, i32_w]
                rfl
               refine pure_ (i := 13) (N := some 107) (v := ?_) (a' := ?_) #[oI, oI, oI, oI, oI, oI, oI, oI, oI, oI, oI, oI, oI, oI, oO, oO, oO, oO, oO, oO, oO, oO] rfl rfl (any_of HT_.out (by kernel_rfl)) (fun _ _ _ h => h) (Or.inl ⟨by rfl, ?_⟩) ?_ ?_
               rotate_left
               ·intro w'
                go_simp
                with_reducible rfl
               rotate_left
               ·simp only [Act.put, sT, s0, s1, i64_w, i32_w]
                rfl
               refine pure_ (i := 14) (N := some 108) (v := ?_) (a' := ?_) #[oI, oI, oI, oI, oI, oI, oI, oI, oI, oI, oI, oI, oI, oI, oI, oO, oO, oO, oO, oO, oO, oO] rfl rfl (any_of HT_.out (by kernel_rfl)) (fun _ _ _ h => h) (Or.inl ⟨by rfl, ?_⟩) ?_ ?_
               rotate_left
               ·intro w'
                go_simp
                with_reducible rfl
               rotate_left
               ·simp only [Act.put, sT, s0, s1, i64_w, i32_w]
                rfl
               refine pure_ (i := 15) (N := some 109) (v := undef) (a' := ?_) #[oI, oI, oI, oI, oI, oI, oI, oI, oI, oI, oI, oI, oI, oI, oI, oI, oO, oO, oO, oO, oO, oO] rfl rfl (any_of HT_.out (by kernel_rfl)) (fun _ _ _ h => h) (Or.inr ⟨by rfl, rfl⟩) ?_ ?_
               rotate_left
               ·simp only [Act.put, sT, s0, s1, i64_w, i32_w]
                rfl
               refine pure_ (i := 16) (N := some 110) (v := undef) (a' := ?_) #[oI, oI, oI, oI, oI, oI, oI, oI, oI, oI, oI, oI, oI, oI, oI, oI, oI, oO, oO, oO, oO, oO] rfl rfl (any_of HT_.out (by kernel_rfl)) (fun _ _ _ h => h) (Or.inr ⟨by rfl, rfl⟩) ?_ ?_
               rotate_left
               ·simp only [Act.put, sT, s0, s1, i64_w, i32_w]
                rfl
               refine pure_ (i := 17) (N := some 111) (v := undef) (a' := ?_) #[oI, oI, oI, oI, oI, oI, oI, oI, oI, oI, oI, oI, oI, oI, oI, oI, oI, oI, oO, oO, oO, oO] rfl rfl (any_of HT_.out (by kernel_rfl)) (fun _ _ _ h => h) (Or.inr ⟨by rfl, rfl⟩) ?_ ?_
               rotate_left
               ·simp only [Act.put, sT, s0, s1, i64_w, i32_w]
                rfl
               refine pure_ (i := 18) (N := some 112) (v := undef) (a' := ?_) #[oI, oI, oI, oI, oI, oI, oI, oI, oI, oI, oI, oI, oI, oI, oI, oI, oI, oI, oI, oO, oO, oO] rfl rfl (any_of HT_.out (by kernel_rfl)) (fun _ _ _ h => h) (Or.inr ⟨by rfl, rfl⟩) ?_ ?_
               rotate_left
               ·simp only [Act.put, sT, s0, s1, i64_w, i32_w]
                rfl
               refine pure_ (i := 19) (N := some 113) (v := undef) (a' := ?_) #[oI, oI, oI, oI, oI, oI, oI, oI, oI, oI, oI, oI, oI, oI, oI, oI, oI, oI, oI, oI, oO, oO] rfl rfl (any_of HT_.out (by kernel_rfl)) (fun _ _ _ h => h) (Or.inr ⟨by rfl, rfl⟩) ?_ ?_
               rotate_left
               ·simp only [Act.put, sT, s0, s1, i64_w, i32_w]
                rfl
               refine pure_ (i := 20) (N := some 114) (v := undef) (a' := ?_) #[oI, oI, oI, oI, oI, oI, oI, oI, oI, oI, oI, oI, oI, oI, oI, oI, oI, oI, oI, oI, oI, oO] rfl rfl (any_of HT_.out (by kernel_rfl)) (fun _ _ _ h => h) (Or.inr ⟨by rfl, rfl⟩) ?_ ?_
               rotate_left
               ·simp only [Act.put, sT, s0, s1, i64_w, i32_w]
                rfl
               refine pure_ (i := 21) (N := some 115) (v := ?_) (a' := ?_) #[oI, oI, oI, oI, oI, oI, oI, oI, oI, oI, oI, oI, oI, oI, oI, oI, oI, oI, oI, oI, oI, oI] rfl rfl (any_of HT_.out (by kernel_rfl)) (fun _ _ _ h => h) (Or.inl ⟨by rfl, ?_⟩) ?_ ?_
               rotate_left
               ·intro w'
                go_simp
                with_reducible rfl
               rotate_left
               ·simp only [Act.put, sT, s0, s1, i64_w, i32_w]
                rfl
               refine done_ (done_of HT_.out (by kernel_rfl)) ?_
               try go_wp2
               go_meet
               case rel => exact ⟨_, (true), (by first | rfl | (simp; done) | (simp [*]; done)), H', ⟨by have := HJ4.out; have := HK2.out; first | omega | exact Nat.le_refl _⟩, ⟨zV (Kd.V_mono HO_345000.out (fun _ hk => ⟨hk.1, ⟨hk.2.2.2.1, ⟨hk.2.2.2.2.1, ⟨hk.2.2.2.2.2.1, ⟨hk.2.2.2.2.2.2.1, ⟨hk.2.2.2.2.2.2.2.1, ⟨hk.2.2.2.2.2.2.2.2.1, hk.2.2.2.2.2.2.2.2.2⟩⟩⟩⟩⟩⟩⟩))⟩, ⟨zV (Kd.V_mono HO_345001.out (fun _ hk => ⟨hk.1, ⟨hk.2.2.2.1, ⟨hk.2.2.2.2.1, ⟨hk.2.2.2.2.2.1, ⟨hk.2.2.2.2.2.2.1, ⟨hk.2.2.2.2.2.2.2.1, ⟨hk.2.2.2.2.2.2.2.2.1, hk.2.2.2.2.2.2.2.2.2⟩⟩⟩⟩⟩⟩⟩))⟩, ⟨zN (Kd.N_mono HO_355000.out (fun _ hk => ⟨hk.1, ⟨hk.2.2.2.1, ⟨hk.2.2.2.2.1, ⟨hk.2.2.2.2.2.1, ⟨hk.2.2.2.2.2.2.1, ⟨hk.2.2.2.2.2.2.2.1, hk.2.2.2.2.2.2.2.2⟩⟩⟩⟩⟩⟩))⟩, ⟨zN (Kd.N_mono HO_355001.out (fun _ hk => ⟨hk.1, ⟨hk.2.2.2.1, ⟨hk.2.2.2.2.1, ⟨hk.2.2.2.2.2.1, ⟨hk.2.2.2.2.2.2.1, ⟨hk.2.2.2.2.2.2.2.1, hk.2.2.2.2.2.2.2.2⟩⟩⟩⟩⟩⟩))⟩, ⟨zN (Kd.N_mono HO369.out (fun _ hk => ⟨hk.1, ⟨hk.2.2.2.1, ⟨hk.2.2.2.2.1, ⟨hk.2.2.2.2.2.1, ⟨hk.2.2.2.2.2.2.1, ⟨hk.2.2.2.2.2.2.2.1, hk.2.2.2.2.2.2.2.2⟩⟩⟩⟩⟩⟩))⟩, ⟨zN (Kd.N_mono HO372.out (fun _ hk => ⟨hk.1, ⟨hk.2.2.2.1, ⟨hk.2.2.2.2.1, ⟨hk.2.2.2.2.2.1, ⟨hk.2.2.2.2.2.2.1, ⟨hk.2.2.2.2.2.2.2.1, hk.2.2.2.2.2.2.2.2⟩⟩⟩⟩⟩⟩))⟩, ⟨zB BK344.out⟩, ⟨zB BK354.out⟩, ⟨zB BK373.out⟩, ⟨by repeat (first | (with_reducible first | exact HB.out | apply pA | apply pN | apply pD | refine pS ?_ GE344.out | refine pS ?_ GE354.out | refine pS ?_ GE373.out) | exact HB.out)⟩⟩
             ·replace c93 := Bool.eq_false_iff.mpr c93
              subst c93
              have H1 : (portreevelaw03_DiskCrashes.j2 k2 l2 t345 true t367 t370) = some r := by rw [if_neg (show ¬ (false = true) by decide)] at H; exact H
              clear H
              have H := H1
              clear H1
              have H' := Aside0.mk H
              clear H
              try go_wp2
              have n0_ : Aside0 (Kd.R (Kd.int .u8) 5 ((w85.setCell ⟨gb373, 0, none⟩ (.slice Ao86 t367.length co86)).setCell ⟨gb373, 1, none⟩ (.slice Ao90 t370.length co90)) w.heap.size (fun k_ => (w.heap.size ≤ k_)) v356 t355) := ⟨zR (Kd.R_mono (Kd.R_far (p := ⟨gb373, 1, none⟩) (Kd.R_far (p := ⟨gb373, 0, none⟩) (Kd.R_types HO_9.out BK373.out (by decide)) (fun _ hk => hk.2) (.slice Ao86 t367.length co86)) (fun _ hk => hk.2) (.slice Ao90 t370.length co90)) (fun _ hk => hk.1))⟩
              have n1_ : Aside0 (Kd.V (Kd.int .u8) 5 ((w85.setCell ⟨gb373, 0, none⟩ (.slice Ao86 t367.length co86)).setCell ⟨gb373, 1, none⟩ (.slice Ao90 t370.length co90)) w.heap.size (fun k_ => ((P0_0_ k_ ∨ P0_1_ k_) ∨ w.heap.size ≤ k_) ∧ some k_ ≠ (v356 : Value).ownBlock ∧ some k_ ≠ (v361 : Value).ownBlock ∧ some k_ ≠ (.slice Ao42 t348.length co42 : Value).ownBlock ∧ some k_ ≠ (.slice Ao45 t351.length co45 : Value).ownBlock ∧ some k_ ≠ (.slice Ao86 t367.length co86 : Value).ownBlock ∧ some k_ ≠ (.slice Ao90 t370.length co90 : Value).ownBlock ∧ k_ ≠ gb344 ∧ k_ ≠ gb354 ∧ k_ ≠ gb373) u11 x11_2) := ⟨zV (Kd.V_mono (Kd.V_far (p := ⟨gb373, 1, none⟩) (Kd.V_far (p := ⟨gb373, 0, none⟩) (Kd.V_mono HO_11.out (fun k_ hk => (⟨hk, hk.2⟩ : _ ∧ k_ ≠ gb373))) (fun _ hk => hk.2) (.slice Ao86 t367.length co86)) (fun _ hk => hk.2) (.slice Ao90 t370.length co90)) (fun _ hk => ⟨hk.1.1.1.1.1, ⟨hk.1.1.1.1.2.1, ⟨hk.1.1.1.1.2.2.1, ⟨hk.1.1.1.1.2.2.2.1, ⟨hk.1.1.1.1.2.2.2.2.1, ⟨hk.1.1.1.2, ⟨hk.1.1.2, ⟨hk.1.1.1.1.2.2.2.2.2.1, ⟨hk.1.1.1.1.2.2.2.2.2.2, hk.1.2⟩⟩⟩⟩⟩⟩⟩⟩⟩))⟩
              have n2_ : Aside0 (Kd.R Kd.bool 4 ((w85.setCell ⟨gb373, 0, none⟩ (.slice Ao86 t367.length co86)).setCell ⟨gb373, 1, none⟩ (.slice Ao90 t370.length co90)) w.heap.size (fun k_ => (w.heap.size ≤ k_)) v361 x12_2) := ⟨zR (Kd.R_mono (Kd.R_far (p := ⟨gb373, 1, none⟩) (Kd.R_far (p := ⟨gb373, 0, none⟩) (Kd.R_types HO_12.out BK373.out (by decide)) (fun _ hk => hk.2) (.slice Ao86 t367.length co86)) (fun _ hk => hk.2) (.slice Ao90 t370.length co90)) (fun _ hk => hk.1))⟩
              have n3_ : Aside0 (Kd.V (Kd.slice 5 (Kd.int .u8)) 26 ((w85.setCell ⟨gb373, 0, none⟩ (.slice Ao86 t367.length co86)).setCell ⟨gb373, 1, none⟩ (.slice Ao90 t370.length co90)) w.heap.size (fun k_ => ((P0_0_ k_ ∨ P0_1_ k_) ∨ w.heap.size ≤ k_) ∧ some k_ ≠ (v356 : Value).ownBlock ∧ some k_ ≠ (v361 : Value).ownBlock ∧ some k_ ≠ (.slice Ao42 t348.length co42 : Value).ownBlock ∧ some k_ ≠ (.slice Ao45 t351.length co45 : Value).ownBlock ∧ some k_ ≠ (.slice Ao86 t367.length co86 : Value).ownBlock ∧ some k_ ≠ (.slice Ao90 t370.length co90 : Value).ownBlock ∧ k_ ≠ gb344 ∧ k_ ≠ gb354 ∧ k_ ≠ gb373) (.slice (some ad359) l0_0.length c0_0) l0_0) := ⟨zV (Kd.V_mono (Kd.V_far (p := ⟨gb373, 1, none⟩) (Kd.V_far (p := ⟨gb373, 0, none⟩) (Kd.V_mono HO_345000.out (fun k_ hk => (⟨hk, hk.2⟩ : _ ∧ k_ ≠ gb373))) (fun _ hk => hk.2) (.slice Ao86 t367.length co86)) (fun _ hk => hk.2) (.slice Ao90 t370.length co90)) (fun _ hk => ⟨hk.1.1.1.1.1, ⟨hk.1.1.1.1.2.1, ⟨hk.1.1.1.1.2.2.1, ⟨hk.1.1.1.1.2.2.2.1, ⟨hk.1.1.1.1.2.2.2.2.1, ⟨hk.1.1.1.2, ⟨hk.1.1.2, ⟨hk.1.1.1.1.2.2.2.2.2.1, ⟨hk.1.1.1.1.2.2.2.2.2.2, hk.1.2⟩⟩⟩⟩⟩⟩⟩⟩⟩))⟩
              have n4_ : Aside0 (Kd.V k47 47 ((w85.setCell ⟨gb373, 0, none⟩ (.slice Ao86 t367.length co86)).setCell ⟨gb373, 1, none⟩ (.slice Ao90 t370.length co90)) w.heap.size (fun k_ => ((P0_0_ k_ ∨ P0_1_ k_) ∨ w.heap.size ≤ k_) ∧ some k_ ≠ (v356 : Value).ownBlock ∧ some k_ ≠ (v361 : Value).ownBlock ∧ some k_ ≠ (.slice Ao42 t348.length co42 : Value).ownBlock ∧ some k_ ≠ (.slice Ao45 t351.length co45 : Value).ownBlock ∧ some k_ ≠ (.slice Ao86 t367.length co86 : Value).ownBlock ∧ some k_ ≠ (.slice Ao90 t370.length co90 : Value).ownBlock ∧ k_ ≠ gb344 ∧ k_ ≠ gb354 ∧ k_ ≠ gb373) (.slice A0_1 l0_1.length c0_1) l0_1) := ⟨zV (Kd.V_mono (Kd.V_far (p := ⟨gb373, 1, none⟩) (Kd.V_far (p := ⟨gb373, 0, none⟩) (Kd.V_mono HO_345001.out (fun k_ hk => (⟨hk, hk.2⟩ : _ ∧ k_ ≠ gb373))) (fun _ hk => hk.2) (.slice Ao86 t367.length co86)) (fun _ hk => hk.2) (.slice Ao90 t370.length co90)) (fun _ hk => ⟨hk.1.1.1.1.1, ⟨hk.1.1.1.1.2.1, ⟨hk.1.1.1.1.2.2.1, ⟨hk.1.1.1.1.2.2.2.1, ⟨hk.1.1.1.1.2.2.2.2.1, ⟨hk.1.1.1.2, ⟨hk.1.1.2, ⟨hk.1.1.1.1.2.2.2.2.2.1, ⟨hk.1.1.1.1.2.2.2.2.2.2, hk.1.2⟩⟩⟩⟩⟩⟩⟩⟩⟩))⟩
              have n5_ : Aside0 (Kd.N (Kd.slice 5 (Kd.int .u8)) 26 ((w85.setCell ⟨gb373, 0, none⟩ (.slice Ao86 t367.length co86)).setCell ⟨gb373, 1, none⟩ (.slice Ao90 t370.length co90)) w.heap.size (fun k_ => ((P0_0_ k_ ∨ P0_1_ k_) ∨ w.heap.size ≤ k_) ∧ some k_ ≠ (v356 : Value).ownBlock ∧ some k_ ≠ (v361 : Value).ownBlock ∧ some k_ ≠ (.slice Ao45 t351.length co45 : Value).ownBlock ∧ some k_ ≠ (.slice Ao86 t367.length co86 : Value).ownBlock ∧ some k_ ≠ (.slice Ao90 t370.length co90 : Value).ownBlock ∧ k_ ≠ gb344 ∧ k_ ≠ gb354 ∧ k_ ≠ gb373) (.slice Ao42 t348.length co42) t348) := ⟨zN (Kd.N_mono (Kd.N_far (p := ⟨gb373, 1, none⟩) (Kd.N_far (p := ⟨gb373, 0, none⟩) (Kd.N_mono HO_355000.out (fun k_ hk => (⟨hk, hk.2⟩ : _ ∧ k_ ≠ gb373))) (fun _ hk => hk.2) (.slice Ao86 t367.length co86)) (fun _ hk => hk.2) (.slice Ao90 t370.length co90)) (fun _ hk => ⟨hk.1.1.1.1.1, ⟨hk.1.1.1.1.2.1, ⟨hk.1.1.1.1.2.2.1, ⟨hk.1.1.1.1.2.2.2.1, ⟨hk.1.1.1.2, ⟨hk.1.1.2, ⟨hk.1.1.1.1.2.2.2.2.1, ⟨hk.1.1.1.1.2.2.2.2.2, hk.1.2⟩⟩⟩⟩⟩⟩⟩⟩))⟩
              have n6_ : Aside0 (Kd.N k47 47 ((w85.setCell ⟨gb373, 0, none⟩ (.slice Ao86 t367.length co86)).setCell ⟨gb373, 1, none⟩ (.slice Ao90 t370.length co90)) w.heap.size (fun k_ => ((P0_0_ k_ ∨ P0_1_ k_) ∨ w.heap.size ≤ k_) ∧ some k_ ≠ (v356 : Value).ownBlock ∧ some k_ ≠ (v361 : Value).ownBlock ∧ some k_ ≠ (.slice Ao42 t348.length co42 : Value).ownBlock ∧ some k_ ≠ (.slice Ao86 t367.length co86 : Value).ownBlock ∧ some k_ ≠ (.slice Ao90 t370.length co90 : Value).ownBlock ∧ k_ ≠ gb344 ∧ k_ ≠ gb354 ∧ k_ ≠ gb373) (.slice Ao45 t351.length co45) t351) := ⟨zN (Kd.N_mono (Kd.N_far (p := ⟨gb373, 1, none⟩) (Kd.N_far (p := ⟨gb373, 0, none⟩) (Kd.N_mono HO_355001.out (fun k_ hk => (⟨hk, hk.2⟩ : _ ∧ k_ ≠ gb373))) (fun _ hk => hk.2) (.slice Ao86 t367.length co86)) (fun _ hk => hk.2) (.slice Ao90 t370.length co90)) (fun _ hk => ⟨hk.1.1.1.1.1, ⟨hk.1.1.1.1.2.1, ⟨hk.1.1.1.1.2.2.1, ⟨hk.1.1.1.1.2.2.2.1, ⟨hk.1.1.1.2, ⟨hk.1.1.2, ⟨hk.1.1.1.1.2.2.2.2.1, ⟨hk.1.1.1.1.2.2.2.2.2, hk.1.2⟩⟩⟩⟩⟩⟩⟩⟩))⟩
              have n7_ : Aside0 (Kd.N (Kd.slice 5 (Kd.int .u8)) 26 ((w85.setCell ⟨gb373, 0, none⟩ (.slice Ao86 t367.length co86)).setCell ⟨gb373, 1, none⟩ (.slice Ao90 t370.length co90)) w.heap.size (fun k_ => ((P0_0_ k_ ∨ P0_1_ k_) ∨ w.heap.size ≤ k_) ∧ some k_ ≠ (v356 : Value).ownBlock ∧ some k_ ≠ (v361 : Value).ownBlock ∧ some k_ ≠ (.slice Ao42 t348.length co42 : Value).ownBlock ∧ some k_ ≠ (.slice Ao45 t351.length co45 : Value).ownBlock ∧ some k_ ≠ (.slice Ao90 t370.length co90 : Value).ownBlock ∧ k_ ≠ gb344 ∧ k_ ≠ gb354 ∧ k_ ≠ gb373) (.slice Ao86 t367.length co86) t367) := ⟨zN (Kd.N_mono (Kd.N_far (p := ⟨gb373, 1, none⟩) (Kd.N_far (p := ⟨gb373, 0, none⟩) (Kd.N_mono HO369.out (fun k_ hk => (⟨hk, hk.2⟩ : _ ∧ k_ ≠ gb373))) (fun _ hk => hk.2) (.slice Ao86 t367.length co86)) (fun _ hk => hk.2) (.slice Ao90 t370.length co90)) (fun _ hk => ⟨hk.1.1.1, ⟨hk.1.1.2.2.1, ⟨hk.1.1.2.2.2.1, ⟨hk.1.1.2.2.2.2.1, ⟨hk.1.1.2.2.2.2.2.1, ⟨hk.1.1.2.1, ⟨hk.1.1.2.2.2.2.2.2.1, ⟨hk.1.1.2.2.2.2.2.2.2, hk.1.2⟩⟩⟩⟩⟩⟩⟩⟩))⟩
              have n8_ : Aside0 (Kd.N k47 47 ((w85.setCell ⟨gb373, 0, none⟩ (.slice Ao86 t367.length co86)).setCell ⟨gb373, 1, none⟩ (.slice Ao90 t370.length co90)) w.heap.size (fun k_ => ((P0_0_ k_ ∨ P0_1_ k_) ∨ w.heap.size ≤ k_) ∧ some k_ ≠ (v356 : Value).ownBlock ∧ some k_ ≠ (v361 : Value).ownBlock ∧ some k_ ≠ (.slice Ao42 t348.length co42 : Value).ownBlock ∧ some k_ ≠ (.slice Ao45 t351.length co45 : Value).ownBlock ∧ some k_ ≠ (.slice Ao86 t367.length co86 : Value).ownBlock ∧ k_ ≠ gb344 ∧ k_ ≠ gb354 ∧ k_ ≠ gb373) (.slice Ao90 t370.length co90) t370) := ⟨zN (Kd.N_mono (Kd.N_far (p := ⟨gb373, 1, none⟩) (Kd.N_far (p := ⟨gb373, 0, none⟩) (Kd.N_mono HO372.out (fun k_ hk => (⟨hk, hk.2⟩ : _ ∧ k_ ≠ gb373))) (fun _ hk => hk.2) (.slice Ao86 t367.length co86)) (fun _ hk => hk.2) (.slice Ao90 t370.length co90)) (fun _ hk => ⟨hk.1.1.1, ⟨hk.1.1.2.2.1, ⟨hk.1.1.2.2.2.1, ⟨hk.1.1.2.2.2.2.1, ⟨hk.1.1.2.2.2.2.2.1, ⟨hk.1.1.2.1, ⟨hk.1.1.2.2.2.2.2.2.1, ⟨hk.1.1.2.2.2.2.2.2.2, hk.1.2⟩⟩⟩⟩⟩⟩⟩⟩))⟩
              have n9_ : Aside0 (((w85.setCell ⟨gb373, 0, none⟩ (.slice Ao86 t367.length co86)).setCell ⟨gb373, 1, none⟩ (.slice Ao90 t370.length co90)).heap[gb344]? = some (.cells #[.slice (some ad359) l0_0.length c0_0, .slice A0_1 l0_1.length c0_1] 25 (0, 0))) := ⟨by (with_reducible repeat (first | refine qN ?_ _ | refine qD ?_ | refine qA ?_ _)); refine blk_far ?_ NB344_373.out _; (with_reducible repeat (first | refine qN ?_ _ | refine qD ?_ | refine qA ?_ _)); refine blk_far ?_ NB344_373.out _; (with_reducible repeat (first | refine qN ?_ _ | refine qD ?_ | refine qA ?_ _)); exact BK344.out⟩
              have n10_ : Aside0 (((w85.setCell ⟨gb373, 0, none⟩ (.slice Ao86 t367.length co86)).setCell ⟨gb373, 1, none⟩ (.slice Ao90 t370.length co90)).heap[gb354]? = some (.cells #[.slice Ao42 t348.length co42, .slice Ao45 t351.length co45] 25 (0, 0))) := ⟨by (with_reducible repeat (first | refine qN ?_ _ | refine qD ?_ | refine qA ?_ _)); refine blk_far ?_ NB354_373.out _; (with_reducible repeat (first | refine qN ?_ _ | refine qD ?_ | refine qA ?_ _)); refine blk_far ?_ NB354_373.out _; (with_reducible repeat (first | refine qN ?_ _ | refine qD ?_ | refine qA ?_ _)); exact BK354.out⟩
              have n11_ : Aside0 (((w85.setCell ⟨gb373, 0, none⟩ (.slice Ao86 t367.length co86)).setCell ⟨gb373, 1, none⟩ (.slice Ao90 t370.length co90)).heap[gb373]? = some (.cells #[.slice Ao86 t367.length co86, .slice Ao90 t370.length co90] 25 (0, 0))) := ⟨by (with_reducible repeat (first | refine qN ?_ _ | refine qD ?_ | refine qA ?_ _)); refine blk_put (cs := #[.slice Ao86 t367.length co86, .slice none 0 0]) ?_ 1 _ rfl; (with_reducible repeat (first | refine qN ?_ _ | refine qD ?_ | refine qA ?_ _)); refine blk_put (cs := #[.slice none 0 0, .slice none 0 0]) ?_ 0 _ rfl; (with_reducible repeat (first | refine qN ?_ _ | refine qD ?_ | refine qA ?_ _)); exact BK373.out⟩
              have n12_ : Aside0 (Below w.heap.size w ((w85.setCell ⟨gb373, 0, none⟩ (.slice Ao86 t367.length co86)).setCell ⟨gb373, 1, none⟩ (.slice Ao90 t370.length co90))) := ⟨by repeat (first | (with_reducible first | exact HB.out | apply pA | apply pN | apply pD | refine pS ?_ GE344.out | refine pS ?_ GE354.out | refine pS ?_ GE373.out) | exact HB.out)⟩
              (try clear HO_9)
              (try clear HO_11)
              (try clear HO_12)
              (try clear HO_345000)
              (try clear HO_345001)
              (try clear HO_355000)
              (try clear HO_355001)
              (try clear HO369)
              (try clear HO372)
              (try clear BK344)
              (try clear BK354)
              (try clear BK373)
              (try clear HB)
              generalize ((w85.setCell ⟨gb373, 0, none⟩ (.slice Ao86 t367.length co86)).setCell ⟨gb373, 1, none⟩ (.slice Ao90 t370.length co90)) = w110 at n0_ n1_ n2_ n3_ n4_ n5_ n6_ n7_ n8_ n9_ n10_ n11_ n12_ ⊢
              have HO_9 := n0_
              have HO_11 := n1_
              have HO_12 := n2_
              have HO_345000 := n3_
              have HO_345001 := n4_
              have HO_355000 := n5_
              have HO_355001 := n6_
              have HO369 := n7_
              have HO372 := n8_
              have BK344 := n9_
              have BK354 := n10_
              have BK373 := n11_
              have HB := n12_
              clear n0_ n1_ n2_ n3_ n4_ n5_ n6_ n7_ n8_ n9_ n10_ n11_ n12_
              have n0_ := Aside0.mk (Kd.R_drew HO_9.out)
              have n1_ := Aside0.mk (Kd.V_drew HO_11.out)
              have n2_ := Aside0.mk (Kd.R_drew HO_12.out)
              have n3_ := Aside0.mk (Kd.V_drew HO_345000.out)
              have n4_ := Aside0.mk (Kd.V_drew HO_345001.out)
              have n5_ := Aside0.mk (Kd.N_drew HO_355000.out)
              have n6_ := Aside0.mk (Kd.N_drew HO_355001.out)
              have n7_ := Aside0.mk (Kd.N_drew HO369.out)
              have n8_ := Aside0.mk (Kd.N_drew HO372.out)
              have n9_ := Aside0.mk (qD BK344.out)
              have n10_ := Aside0.mk (qD BK354.out)
              have n11_ := Aside0.mk (qD BK373.out)
              have n12_ := Aside0.mk (pD HB.out)
              clear HO_9
              clear HO_11
              clear HO_12
              clear HO_345000
              clear HO_345001
              clear HO_355000
              clear HO_355001
              clear HO369
              clear HO372
              clear BK344
              clear BK354
              clear BK373
              clear HB
              have HO_9 := n0_
              have HO_11 := n1_
              have HO_12 := n2_
              have HO_345000 := n3_
              have HO_345001 := n4_
              have HO_355000 := n5_
              have HO_355001 := n6_
              have HO369 := n7_
              have HO372 := n8_
              have BK344 := n9_
              have BK354 := n10_
              have BK373 := n11_
              have HB := n12_
              clear n0_ n1_ n2_ n3_ n4_ n5_ n6_ n7_ n8_ n9_ n10_ n11_ n12_
              obtain ⟨Ao112, co112, eo112⟩ := Kd.R_slice HO_9.out
              (first | subst eo112 | (injection eo112 with f1_ f2_ f3_; have f4_ := f1_.symm; have f5_ := f3_.symm; clear f1_ f2_ f3_; subst f4_; subst f5_))
              obtain ⟨Ao113, co113, eo113⟩ := Kd.V_slice HO_11.out
              (first | subst eo113 | (injection eo113 with f1_ f2_ f3_; have f4_ := f1_.symm; have f5_ := f3_.symm; clear f1_ f2_ f3_; subst f4_; subst f5_))
              refine start_ (n := 22) (S := fun w' => True) (ds := []) #[oO, oO, oO, oO, oO, oO, oO, oO, oO, oO, oO, oO, oO, oO, oO, oO, oO, oO, oO, oO, oO, oO] (by kernel_rfl) rfl rfl trivial (fun hHeld => ?_); refine with_tabW portreevelaw03_DiskCrashes.tab15 portreevelaw03_DiskCrashes.bits15 (fun HT_ HW_ => ?_)
              generalize w110.drew = w111 at HO_9 HO_11 HO_12 HO_345000 HO_345001 HO_355000 HO_355001 HO369 HO372 BK344 BK354 BK373 HB hHeld ⊢
              refine pure_ (i := 0) (N := some 94) (v := ?_) (a' := ?_) #[oI, oO, oO, oO, oO, oO, oO, oO, oO, oO, oO, oO, oO, oO, oO, oO, oO, oO, oO, oO, oO, oO] rfl rfl (any_of HT_.out (by kernel_rfl)) (fun _ _ _ h => h) (Or.inl ⟨by rfl, ?_⟩) ?_ ?_
              rotate_left
              ·intro w'
               go_simp
               with_reducible rfl
              rotate_left
              ·simp only [Act.put, sT, s0, s1, i64_w, i32_w]
               rfl
              refine pure_ (i := 1) (N := some 95) (v := ?_) (a' := ?_) #[oI, oI, oO, oO, oO, oO, oO, oO, oO, oO, oO, oO, oO, oO, oO, oO, oO, oO, oO, oO, oO, oO] rfl rfl (any_of HT_.out (by kernel_rfl)) (fun _ _ _ h => h) (Or.inl ⟨by rfl, ?_⟩) ?_ ?_
              rotate_left
              ·intro w'
               go_simp
               with_reducible rfl
              rotate_left
              ·simp only [Act.put, sT, s0, s1, i64_w, i32_w]
               rfl
              refine pure_ (i := 2) (N := some 96) (v := ?_) (a' := ?_) #[oI, oI, oI, oO, oO, oO, oO, oO, oO, oO, oO, oO, oO, oO, oO, oO, oO, oO, oO, oO, oO, oO] rfl rfl (any_of HT_.out (by kernel_rfl)) (fun _ _ _ h => h) (Or.inl ⟨by rfl, ?_⟩) ?_ ?_
              rotate_left
              ·intro w'
               go_simp
               with_reducible rfl
              rotate_left
              ·simp only [Act.put, sT, s0, s1, i64_w, i32_w]
               rfl
              refine pure_ (i := 3) (N := some 97) (v := ?_) (a' := ?_) #[oI, oI, oI, oI, oO, oO, oO, oO, oO, oO, oO, oO, oO, oO, oO, oO, oO, oO, oO, oO, oO, oO] rfl rfl (any_of HT_.out (by kernel_rfl)) (fun _ _ _ h => h) (Or.inl ⟨by rfl, ?_⟩) ?_ ?_
              rotate_left
              ·intro w'
               go_simp
               with_reducible rfl
              rotate_left
              ·simp only [Act.put, sT, s0, s1, i64_w, i32_w]
               rfl
              refine pure_ (i := 4) (N := some 98) (v := ?_) (a' := ?_) #[oI, oI, oI, oI, oI, oO, oO, oO, oO, oO, oO, oO, oO, oO, oO, oO, oO, oO, oO, oO, oO, oO] rfl rfl (any_of HT_.out (by kernel_rfl)) (fun _ _ _ h => h) (Or.inl ⟨by rfl, ?_⟩) ?_ ?_
              rotate_left
              ·intro w'
               go_simp
               with_reducible rfl
              rotate_left
              ·simp only [Act.put, sT, s0, s1, i64_w, i32_w]
               rfl
              refine one_ (i := 5) (N := some 99) #[oI, oI, oI, oI, oI, oI, oO, oO, oO, oO, oO, oO, oO, oO, oO, oO, oO, oO, oO, oO, oO, oO] rfl rfl (one_of HT_.out (by kernel_rfl)) (by decide) (fun K hK => ?_)
              refine goes_ Try.func17 (by kernel_rfl) rfl #[.slice Ao112 t355.length co112, .slice Ao113 x11_2.length co113] (by rfl) rfl rfl (by (try simp only [List.map_toArray, List.map_cons, List.map_nil]); first | done | rfl | (simp only [List.length_drop, List.length_take]; rfl)) ?_
              with_reducible refine (portreeveref01_Row.calls k2 _ _ t355 _ _ x11_2 false _ ?side1 ?side2 ?side3 ?side4 A92.out).mono ?_
              (case side1 => repeat (first | exact (Kd.R_reads' HO_9.out).2.2 | (with_reducible refine Kd.C_alloc ?_ _) | (with_reducible refine Kd.C_drewN ?_ _) | (with_reducible refine Kd.C_drew ?_)))
              (case side2 => exact (Kd.R_reads' HO_9.out).2.1)
              (case side3 => repeat (first | exact (Kd.V_reads' HO_11.out).2.2 | (with_reducible refine Kd.C_alloc ?_ _) | (with_reducible refine Kd.C_drewN ?_ _) | (with_reducible refine Kd.C_drew ?_)))
              (case side4 => exact (Kd.V_reads' HO_11.out).2.1)
              rintro e w' ⟨rfl, ⟨nd, rfl⟩⟩
              refine ⟨_, rfl, ?_⟩
              refine hK.out _ _ trivial (fun hHeld => ?_)
              clear hK K
              refine norm_ (a' := ?_) ?_ ?_
              rotate_left
              ·show Act.put _ (some 99) _ = _
               simp only [Act.put, sT, s0, s1, i64_w, i32_w]
               rfl
              refine pure_ (i := 6) (N := some 100) (v := ?_) (a' := ?_) #[oI, oI, oI, oI, oI, oI, oI, oO, oO, oO, oO, oO, oO, oO, oO, oO, oO, oO, oO, oO, oO, oO] rfl rfl (any_of HT_.out (by kernel_rfl)) (fun _ _ _ h => h) (Or.inl ⟨by rfl, ?_⟩) ?_ ?_
              rotate_left
              ·intro w'
               go_simp
               with_reducible rfl
              rotate_left
              ·simp only [Act.put, sT, s0, s1, i64_w, i32_w]
               rfl
              refine pure_ (i := 7) (N := some 101) (v := ?_) (a' := ?_) #[oI, oI, oI, oI, oI, oI, oI, oI, oO, oO, oO, oO, oO, oO, oO, oO, oO, oO, oO, oO, oO, oO] rfl rfl (any_of HT_.out (by kernel_rfl)) (fun _ _ _ h => h) (Or.inl ⟨by rfl, ?_⟩) ?_ ?_
              rotate_left
              ·intro w'
               go_simp
               with_reducible rfl
              rotate_left
              ·simp only [Act.put, sT, s0, s1, i64_w, i32_w]
               rfl
              refine pure_ (i := 8) (N := some 102) (v := ?_) (a' := ?_) #[oI, oI, oI, oI, oI, oI, oI, oI, oI, oO, oO, oO, oO, oO, oO, oO, oO, oO, oO, oO, oO, oO] rfl rfl (any_of HT_.out (by kernel_rfl)) (fun _ _ _ h => h) (Or.inl ⟨by rfl, ?_⟩) ?_ ?_
              rotate_left
              ·intro w'
               go_simp
               with_reducible rfl
              rotate_left
              ·simp only [Act.put, sT, s0, s1, i64_w, i32_w]
               rfl
              refine pure_ (i := 9) (N := some 103) (v := undef) (a' := ?_) #[oI, oI, oI, oI, oI, oI, oI, oI, oI, oI, oO, oO, oO, oO, oO, oO, oO, oO, oO, oO, oO, oO] rfl rfl (any_of HT_.out (by kernel_rfl)) (fun _ _ _ h => h) (Or.inr ⟨by rfl, rfl⟩) ?_ ?_
              rotate_left
              ·simp only [Act.put, sT, s0, s1, i64_w, i32_w]
               rfl
              refine pure_ (i := 10) (N := some 104) (v := undef) (a' := ?_) #[oI, oI, oI, oI, oI, oI, oI, oI, oI, oI, oI, oO, oO, oO, oO, oO, oO, oO, oO, oO, oO, oO] rfl rfl (any_of HT_.out (by kernel_rfl)) (fun _ _ _ h => h) (Or.inr ⟨by rfl, rfl⟩) ?_ ?_
              rotate_left
              ·simp only [Act.put, sT, s0, s1, i64_w, i32_w]
               rfl
              refine pure_ (i := 11) (N := some 105) (v := undef) (a' := ?_) #[oI, oI, oI, oI, oI, oI, oI, oI, oI, oI, oI, oI, oO, oO, oO, oO, oO, oO, oO, oO, oO, oO] rfl rfl (any_of HT_.out (by kernel_rfl)) (fun _ _ _ h => h) (Or.inr ⟨by rfl, rfl⟩) ?_ ?_
              rotate_left
              ·simp only [Act.put, sT, s0, s1, i64_w, i32_w]
               rfl
              refine pure_ (i := 12) (N := some 106) (v := undef) (a' := ?_) #[oI, oI, oI, oI, oI, oI, oI, oI, oI, oI, oI, oI, oI, oO, oO, oO, oO, oO, oO, oO, oO, oO] rfl rfl (any_of HT_.out (by kernel_rfl)) (fun _ _ _ h => h) (Or.inr ⟨by rfl, rfl⟩) ?_ ?_
              rotate_left
              ·simp only [Act.put, sT, s0, s1, i64_w, i32_w]
               rfl
              refine pure_ (i := 13) (N := some 107) (v := ?_) (a' := ?_) #[oI, oI, oI, oI, oI, oI, oI, oI, oI, oI, oI, oI, oI, oI, oO, oO, oO, oO, oO, oO, oO, oO] rfl rfl (any_of HT_.out (by kernel_rfl)) (fun _ _ _ h => h) (Or.inl ⟨by rfl, ?_⟩) ?_ ?_
              rotate_left
              ·intro w'
               go_simp
               with_reducible rfl
              rotate_left
              ·simp only [Act.put, sT, s0, s1, i64_w, i32_w]
               rfl
              refine pure_ (i := 14) (N := some 108) (v := ?_) (a' := ?_) #[oI, oI, oI, oI, oI, oI, oI, oI, oI, oI, oI, oI, oI, oI, oI, oO, oO, oO, oO, oO, oO, oO] rfl rfl (any_of HT_.out (by kernel_rfl)) (fun _ _ _ h => h) (Or.inl ⟨by rfl, ?_⟩) ?_ ?_
              rotate_left
              ·intro w'
               go_simp
               with_reducible rfl
              rotate_left
              ·simp only [Act.put, sT, s0, s1, i64_w, i32_w]
               rfl
              refine pure_ (i := 15) (N := some 109) (v := undef) (a' := ?_) #[oI, oI, oI, oI, oI, oI, oI, oI, oI, oI, oI, oI, oI, oI, oI, oI, oO, oO, oO, oO, oO, oO] rfl rfl (any_of HT_.out (by kernel_rfl)) (fun _ _ _ h => h) (Or.inr ⟨by rfl, rfl⟩) ?_ ?_
              rotate_left
              ·simp only [Act.put, sT, s0, s1, i64_w, i32_w]
               rfl
              refine pure_ (i := 16) (N := some 110) (v := undef) (a' := ?_) #[oI, oI, oI, oI, oI, oI, oI, oI, oI, oI, oI, oI, oI, oI, oI, oI, oI, oO, oO, oO, oO, oO] rfl rfl (any_of HT_.out (by kernel_rfl)) (fun _ _ _ h => h) (Or.inr ⟨by rfl, rfl⟩) ?_ ?_
              rotate_left
              ·simp only [Act.put, sT, s0, s1, i64_w, i32_w]
               rfl
              refine pure_ (i := 17) (N := some 111) (v := undef) (a' := ?_) #[oI, oI, oI, oI, oI, oI, oI, oI, oI, oI, oI, oI, oI, oI, oI, oI, oI, oI, oO, oO, oO, oO] rfl rfl (any_of HT_.out (by kernel_rfl)) (fun _ _ _ h => h) (Or.inr ⟨by rfl, rfl⟩) ?_ ?_
              rotate_left
              ·simp only [Act.put, sT, s0, s1, i64_w, i32_w]
               rfl
              refine pure_ (i := 18) (N := some 112) (v := undef) (a' := ?_) #[oI, oI, oI, oI, oI, oI, oI, oI, oI, oI, oI, oI, oI, oI, oI, oI, oI, oI, oI, oO, oO, oO] rfl rfl (any_of HT_.out (by kernel_rfl)) (fun _ _ _ h => h) (Or.inr ⟨by rfl, rfl⟩) ?_ ?_
              rotate_left
              ·simp only [Act.put, sT, s0, s1, i64_w, i32_w]
               rfl
              refine pure_ (i := 19) (N := some 113) (v := undef) (a' := ?_) #[oI, oI, oI, oI, oI, oI, oI, oI, oI, oI, oI, oI, oI, oI, oI, oI, oI, oI, oI, oI, oO, oO] rfl rfl (any_of HT_.out (by kernel_rfl)) (fun _ _ _ h => h) (Or.inr ⟨by rfl, rfl⟩) ?_ ?_
              rotate_left
              ·simp only [Act.put, sT, s0, s1, i64_w, i32_w]
               rfl
              refine pure_ (i := 20) (N := some 114) (v := undef) (a' := ?_) #[oI, oI, oI, oI, oI, oI, oI, oI, oI, oI, oI, oI, oI, oI, oI, oI, oI, oI, oI, oI, oI, oO] rfl rfl (any_of HT_.out (by kernel_rfl)) (fun _ _ _ h => h) (Or.inr ⟨by rfl, rfl⟩) ?_ ?_
              rotate_left
              ·simp only [Act.put, sT, s0, s1, i64_w, i32_w]
               rfl
              refine pure_ (i := 21) (N := some 115) (v := ?_) (a' := ?_) #[oI, oI, oI, oI, oI, oI, oI, oI, oI, oI, oI, oI, oI, oI, oI, oI, oI, oI, oI, oI, oI, oI] rfl rfl (any_of HT_.out (by kernel_rfl)) (fun _ _ _ h => h) (Or.inl ⟨by rfl, ?_⟩) ?_ ?_
              rotate_left
              ·intro w'
               go_simp
               with_reducible rfl
              rotate_left
              ·simp only [Act.put, sT, s0, s1, i64_w, i32_w]
               rfl
              refine done_ (done_of HT_.out (by kernel_rfl)) ?_
              try go_wp2
              go_meet
              case rel => exact ⟨_, (true), (by first | rfl | (simp; done) | (simp [*]; done)), H', ⟨by have := HJ4.out; have := HK2.out; first | omega | exact Nat.le_refl _⟩, ⟨zV (Kd.V_mono HO_345000.out (fun _ hk => ⟨hk.1, ⟨hk.2.2.2.1, ⟨hk.2.2.2.2.1, ⟨hk.2.2.2.2.2.1, ⟨hk.2.2.2.2.2.2.1, ⟨hk.2.2.2.2.2.2.2.1, ⟨hk.2.2.2.2.2.2.2.2.1, hk.2.2.2.2.2.2.2.2.2⟩⟩⟩⟩⟩⟩⟩))⟩, ⟨zV (Kd.V_mono HO_345001.out (fun _ hk => ⟨hk.1, ⟨hk.2.2.2.1, ⟨hk.2.2.2.2.1, ⟨hk.2.2.2.2.2.1, ⟨hk.2.2.2.2.2.2.1, ⟨hk.2.2.2.2.2.2.2.1, ⟨hk.2.2.2.2.2.2.2.2.1, hk.2.2.2.2.2.2.2.2.2⟩⟩⟩⟩⟩⟩⟩))⟩, ⟨zN (Kd.N_mono HO_355000.out (fun _ hk => ⟨hk.1, ⟨hk.2.2.2.1, ⟨hk.2.2.2.2.1, ⟨hk.2.2.2.2.2.1, ⟨hk.2.2.2.2.2.2.1, ⟨hk.2.2.2.2.2.2.2.1, hk.2.2.2.2.2.2.2.2⟩⟩⟩⟩⟩⟩))⟩, ⟨zN (Kd.N_mono HO_355001.out (fun _ hk => ⟨hk.1, ⟨hk.2.2.2.1, ⟨hk.2.2.2.2.1, ⟨hk.2.2.2.2.2.1, ⟨hk.2.2.2.2.2.2.1, ⟨hk.2.2.2.2.2.2.2.1, hk.2.2.2.2.2.2.2.2⟩⟩⟩⟩⟩⟩))⟩, ⟨zN (Kd.N_mono HO369.out (fun _ hk => ⟨hk.1, ⟨hk.2.2.2.1, ⟨hk.2.2.2.2.1, ⟨hk.2.2.2.2.2.1, ⟨hk.2.2.2.2.2.2.1, ⟨hk.2.2.2.2.2.2.2.1, hk.2.2.2.2.2.2.2.2⟩⟩⟩⟩⟩⟩))⟩, ⟨zN (Kd.N_mono HO372.out (fun _ hk => ⟨hk.1, ⟨hk.2.2.2.1, ⟨hk.2.2.2.2.1, ⟨hk.2.2.2.2.2.1, ⟨hk.2.2.2.2.2.2.1, ⟨hk.2.2.2.2.2.2.2.1, hk.2.2.2.2.2.2.2.2⟩⟩⟩⟩⟩⟩))⟩, ⟨zB BK344.out⟩, ⟨zB BK354.out⟩, ⟨zB BK373.out⟩, ⟨by repeat (first | (with_reducible first | exact HB.out | apply pA | apply pN | apply pD | refine pS ?_ GE344.out | refine pS ?_ GE354.out | refine pS ?_ GE373.out) | exact HB.out)⟩⟩
            ·rw [if_neg c91] at H
             have c91b0 : (t358 == 0) = false := beq_eq_false_iff_ne.mpr c91
             have c91b1 : (t358 != 0) = true := bne_iff_ne.mpr c91
             (first | rw [c91b0] | (simp only [i64_w, i32_w]; rw [c91b0]) | skip)
             have H' := Aside0.mk H
             clear H
             try go_wp2
             have n0_ : Aside0 (Kd.R (Kd.int .u8) 5 ((w85.setCell ⟨gb373, 0, none⟩ (.slice Ao86 t367.length co86)).setCell ⟨gb373, 1, none⟩ (.slice Ao90 t370.length co90)) w.heap.size (fun k_ => (w.heap.size ≤ k_)) v356 t355) := ⟨zR (Kd.R_mono (Kd.R_far (p := ⟨gb373, 1, none⟩) (Kd.R_far (p := ⟨gb373, 0, none⟩) (Kd.R_types HO_9.out BK373.out (by decide)) (fun _ hk => hk.2) (.slice Ao86 t367.length co86)) (fun _ hk => hk.2) (.slice Ao90 t370.length co90)) (fun _ hk => hk.1))⟩
             have n1_ : Aside0 (Kd.V (Kd.int .u8) 5 ((w85.setCell ⟨gb373, 0, none⟩ (.slice Ao86 t367.length co86)).setCell ⟨gb373, 1, none⟩ (.slice Ao90 t370.length co90)) w.heap.size (fun k_ => ((P0_0_ k_ ∨ P0_1_ k_) ∨ w.heap.size ≤ k_) ∧ some k_ ≠ (v356 : Value).ownBlock ∧ some k_ ≠ (v361 : Value).ownBlock ∧ some k_ ≠ (.slice Ao42 t348.length co42 : Value).ownBlock ∧ some k_ ≠ (.slice Ao45 t351.length co45 : Value).ownBlock ∧ some k_ ≠ (.slice Ao86 t367.length co86 : Value).ownBlock ∧ some k_ ≠ (.slice Ao90 t370.length co90 : Value).ownBlock ∧ k_ ≠ gb344 ∧ k_ ≠ gb354 ∧ k_ ≠ gb373) u11 x11_2) := ⟨zV (Kd.V_mono (Kd.V_far (p := ⟨gb373, 1, none⟩) (Kd.V_far (p := ⟨gb373, 0, none⟩) (Kd.V_mono HO_11.out (fun k_ hk => (⟨hk, hk.2⟩ : _ ∧ k_ ≠ gb373))) (fun _ hk => hk.2) (.slice Ao86 t367.length co86)) (fun _ hk => hk.2) (.slice Ao90 t370.length co90)) (fun _ hk => ⟨hk.1.1.1.1.1, ⟨hk.1.1.1.1.2.1, ⟨hk.1.1.1.1.2.2.1, ⟨hk.1.1.1.1.2.2.2.1, ⟨hk.1.1.1.1.2.2.2.2.1, ⟨hk.1.1.1.2, ⟨hk.1.1.2, ⟨hk.1.1.1.1.2.2.2.2.2.1, ⟨hk.1.1.1.1.2.2.2.2.2.2, hk.1.2⟩⟩⟩⟩⟩⟩⟩⟩⟩))⟩
             have n2_ : Aside0 (Kd.R Kd.bool 4 ((w85.setCell ⟨gb373, 0, none⟩ (.slice Ao86 t367.length co86)).setCell ⟨gb373, 1, none⟩ (.slice Ao90 t370.length co90)) w.heap.size (fun k_ => (w.heap.size ≤ k_)) v361 x12_2) := ⟨zR (Kd.R_mono (Kd.R_far (p := ⟨gb373, 1, none⟩) (Kd.R_far (p := ⟨gb373, 0, none⟩) (Kd.R_types HO_12.out BK373.out (by decide)) (fun _ hk => hk.2) (.slice Ao86 t367.length co86)) (fun _ hk => hk.2) (.slice Ao90 t370.length co90)) (fun _ hk => hk.1))⟩
             have n3_ : Aside0 (Kd.V (Kd.slice 5 (Kd.int .u8)) 26 ((w85.setCell ⟨gb373, 0, none⟩ (.slice Ao86 t367.length co86)).setCell ⟨gb373, 1, none⟩ (.slice Ao90 t370.length co90)) w.heap.size (fun k_ => ((P0_0_ k_ ∨ P0_1_ k_) ∨ w.heap.size ≤ k_) ∧ some k_ ≠ (v356 : Value).ownBlock ∧ some k_ ≠ (v361 : Value).ownBlock ∧ some k_ ≠ (.slice Ao42 t348.length co42 : Value).ownBlock ∧ some k_ ≠ (.slice Ao45 t351.length co45 : Value).ownBlock ∧ some k_ ≠ (.slice Ao86 t367.length co86 : Value).ownBlock ∧ some k_ ≠ (.slice Ao90 t370.length co90 : Value).ownBlock ∧ k_ ≠ gb344 ∧ k_ ≠ gb354 ∧ k_ ≠ gb373) (.slice (some ad359) l0_0.length c0_0) l0_0) := ⟨zV (Kd.V_mono (Kd.V_far (p := ⟨gb373, 1, none⟩) (Kd.V_far (p := ⟨gb373, 0, none⟩) (Kd.V_mono HO_345000.out (fun k_ hk => (⟨hk, hk.2⟩ : _ ∧ k_ ≠ gb373))) (fun _ hk => hk.2) (.slice Ao86 t367.length co86)) (fun _ hk => hk.2) (.slice Ao90 t370.length co90)) (fun _ hk => ⟨hk.1.1.1.1.1, ⟨hk.1.1.1.1.2.1, ⟨hk.1.1.1.1.2.2.1, ⟨hk.1.1.1.1.2.2.2.1, ⟨hk.1.1.1.1.2.2.2.2.1, ⟨hk.1.1.1.2, ⟨hk.1.1.2, ⟨hk.1.1.1.1.2.2.2.2.2.1, ⟨hk.1.1.1.1.2.2.2.2.2.2, hk.1.2⟩⟩⟩⟩⟩⟩⟩⟩⟩))⟩
             have n4_ : Aside0 (Kd.V k47 47 ((w85.setCell ⟨gb373, 0, none⟩ (.slice Ao86 t367.length co86)).setCell ⟨gb373, 1, none⟩ (.slice Ao90 t370.length co90)) w.heap.size (fun k_ => ((P0_0_ k_ ∨ P0_1_ k_) ∨ w.heap.size ≤ k_) ∧ some k_ ≠ (v356 : Value).ownBlock ∧ some k_ ≠ (v361 : Value).ownBlock ∧ some k_ ≠ (.slice Ao42 t348.length co42 : Value).ownBlock ∧ some k_ ≠ (.slice Ao45 t351.length co45 : Value).ownBlock ∧ some k_ ≠ (.slice Ao86 t367.length co86 : Value).ownBlock ∧ some k_ ≠ (.slice Ao90 t370.length co90 : Value).ownBlock ∧ k_ ≠ gb344 ∧ k_ ≠ gb354 ∧ k_ ≠ gb373) (.slice A0_1 l0_1.length c0_1) l0_1) := ⟨zV (Kd.V_mono (Kd.V_far (p := ⟨gb373, 1, none⟩) (Kd.V_far (p := ⟨gb373, 0, none⟩) (Kd.V_mono HO_345001.out (fun k_ hk => (⟨hk, hk.2⟩ : _ ∧ k_ ≠ gb373))) (fun _ hk => hk.2) (.slice Ao86 t367.length co86)) (fun _ hk => hk.2) (.slice Ao90 t370.length co90)) (fun _ hk => ⟨hk.1.1.1.1.1, ⟨hk.1.1.1.1.2.1, ⟨hk.1.1.1.1.2.2.1, ⟨hk.1.1.1.1.2.2.2.1, ⟨hk.1.1.1.1.2.2.2.2.1, ⟨hk.1.1.1.2, ⟨hk.1.1.2, ⟨hk.1.1.1.1.2.2.2.2.2.1, ⟨hk.1.1.1.1.2.2.2.2.2.2, hk.1.2⟩⟩⟩⟩⟩⟩⟩⟩⟩))⟩
             have n5_ : Aside0 (Kd.N (Kd.slice 5 (Kd.int .u8)) 26 ((w85.setCell ⟨gb373, 0, none⟩ (.slice Ao86 t367.length co86)).setCell ⟨gb373, 1, none⟩ (.slice Ao90 t370.length co90)) w.heap.size (fun k_ => ((P0_0_ k_ ∨ P0_1_ k_) ∨ w.heap.size ≤ k_) ∧ some k_ ≠ (v356 : Value).ownBlock ∧ some k_ ≠ (v361 : Value).ownBlock ∧ some k_ ≠ (.slice Ao45 t351.length co45 : Value).ownBlock ∧ some k_ ≠ (.slice Ao86 t367.length co86 : Value).ownBlock ∧ some k_ ≠ (.slice Ao90 t370.length co90 : Value).ownBlock ∧ k_ ≠ gb344 ∧ k_ ≠ gb354 ∧ k_ ≠ gb373) (.slice Ao42 t348.length co42) t348) := ⟨zN (Kd.N_mono (Kd.N_far (p := ⟨gb373, 1, none⟩) (Kd.N_far (p := ⟨gb373, 0, none⟩) (Kd.N_mono HO_355000.out (fun k_ hk => (⟨hk, hk.2⟩ : _ ∧ k_ ≠ gb373))) (fun _ hk => hk.2) (.slice Ao86 t367.length co86)) (fun _ hk => hk.2) (.slice Ao90 t370.length co90)) (fun _ hk => ⟨hk.1.1.1.1.1, ⟨hk.1.1.1.1.2.1, ⟨hk.1.1.1.1.2.2.1, ⟨hk.1.1.1.1.2.2.2.1, ⟨hk.1.1.1.2, ⟨hk.1.1.2, ⟨hk.1.1.1.1.2.2.2.2.1, ⟨hk.1.1.1.1.2.2.2.2.2, hk.1.2⟩⟩⟩⟩⟩⟩⟩⟩))⟩
             have n6_ : Aside0 (Kd.N k47 47 ((w85.setCell ⟨gb373, 0, none⟩ (.slice Ao86 t367.length co86)).setCell ⟨gb373, 1, none⟩ (.slice Ao90 t370.length co90)) w.heap.size (fun k_ => ((P0_0_ k_ ∨ P0_1_ k_) ∨ w.heap.size ≤ k_) ∧ some k_ ≠ (v356 : Value).ownBlock ∧ some k_ ≠ (v361 : Value).ownBlock ∧ some k_ ≠ (.slice Ao42 t348.length co42 : Value).ownBlock ∧ some k_ ≠ (.slice Ao86 t367.length co86 : Value).ownBlock ∧ some k_ ≠ (.slice Ao90 t370.length co90 : Value).ownBlock ∧ k_ ≠ gb344 ∧ k_ ≠ gb354 ∧ k_ ≠ gb373) (.slice Ao45 t351.length co45) t351) := ⟨zN (Kd.N_mono (Kd.N_far (p := ⟨gb373, 1, none⟩) (Kd.N_far (p := ⟨gb373, 0, none⟩) (Kd.N_mono HO_355001.out (fun k_ hk => (⟨hk, hk.2⟩ : _ ∧ k_ ≠ gb373))) (fun _ hk => hk.2) (.slice Ao86 t367.length co86)) (fun _ hk => hk.2) (.slice Ao90 t370.length co90)) (fun _ hk => ⟨hk.1.1.1.1.1, ⟨hk.1.1.1.1.2.1, ⟨hk.1.1.1.1.2.2.1, ⟨hk.1.1.1.1.2.2.2.1, ⟨hk.1.1.1.2, ⟨hk.1.1.2, ⟨hk.1.1.1.1.2.2.2.2.1, ⟨hk.1.1.1.1.2.2.2.2.2, hk.1.2⟩⟩⟩⟩⟩⟩⟩⟩))⟩
             have n7_ : Aside0 (Kd.N (Kd.slice 5 (Kd.int .u8)) 26 ((w85.setCell ⟨gb373, 0, none⟩ (.slice Ao86 t367.length co86)).setCell ⟨gb373, 1, none⟩ (.slice Ao90 t370.length co90)) w.heap.size (fun k_ => ((P0_0_ k_ ∨ P0_1_ k_) ∨ w.heap.size ≤ k_) ∧ some k_ ≠ (v356 : Value).ownBlock ∧ some k_ ≠ (v361 : Value).ownBlock ∧ some k_ ≠ (.slice Ao42 t348.length co42 : Value).ownBlock ∧ some k_ ≠ (.slice Ao45 t351.length co45 : Value).ownBlock ∧ some k_ ≠ (.slice Ao90 t370.length co90 : Value).ownBlock ∧ k_ ≠ gb344 ∧ k_ ≠ gb354 ∧ k_ ≠ gb373) (.slice Ao86 t367.length co86) t367) := ⟨zN (Kd.N_mono (Kd.N_far (p := ⟨gb373, 1, none⟩) (Kd.N_far (p := ⟨gb373, 0, none⟩) (Kd.N_mono HO369.out (fun k_ hk => (⟨hk, hk.2⟩ : _ ∧ k_ ≠ gb373))) (fun _ hk => hk.2) (.slice Ao86 t367.length co86)) (fun _ hk => hk.2) (.slice Ao90 t370.length co90)) (fun _ hk => ⟨hk.1.1.1, ⟨hk.1.1.2.2.1, ⟨hk.1.1.2.2.2.1, ⟨hk.1.1.2.2.2.2.1, ⟨hk.1.1.2.2.2.2.2.1, ⟨hk.1.1.2.1, ⟨hk.1.1.2.2.2.2.2.2.1, ⟨hk.1.1.2.2.2.2.2.2.2, hk.1.2⟩⟩⟩⟩⟩⟩⟩⟩))⟩
             have n8_ : Aside0 (Kd.N k47 47 ((w85.setCell ⟨gb373, 0, none⟩ (.slice Ao86 t367.length co86)).setCell ⟨gb373, 1, none⟩ (.slice Ao90 t370.length co90)) w.heap.size (fun k_ => ((P0_0_ k_ ∨ P0_1_ k_) ∨ w.heap.size ≤ k_) ∧ some k_ ≠ (v356 : Value).ownBlock ∧ some k_ ≠ (v361 : Value).ownBlock ∧ some k_ ≠ (.slice Ao42 t348.length co42 : Value).ownBlock ∧ some k_ ≠ (.slice Ao45 t351.length co45 : Value).ownBlock ∧ some k_ ≠ (.slice Ao86 t367.length co86 : Value).ownBlock ∧ k_ ≠ gb344 ∧ k_ ≠ gb354 ∧ k_ ≠ gb373) (.slice Ao90 t370.length co90) t370) := ⟨zN (Kd.N_mono (Kd.N_far (p := ⟨gb373, 1, none⟩) (Kd.N_far (p := ⟨gb373, 0, none⟩) (Kd.N_mono HO372.out (fun k_ hk => (⟨hk, hk.2⟩ : _ ∧ k_ ≠ gb373))) (fun _ hk => hk.2) (.slice Ao86 t367.length co86)) (fun _ hk => hk.2) (.slice Ao90 t370.length co90)) (fun _ hk => ⟨hk.1.1.1, ⟨hk.1.1.2.2.1, ⟨hk.1.1.2.2.2.1, ⟨hk.1.1.2.2.2.2.1, ⟨hk.1.1.2.2.2.2.2.1, ⟨hk.1.1.2.1, ⟨hk.1.1.2.2.2.2.2.2.1, ⟨hk.1.1.2.2.2.2.2.2.2, hk.1.2⟩⟩⟩⟩⟩⟩⟩⟩))⟩
             have n9_ : Aside0 (((w85.setCell ⟨gb373, 0, none⟩ (.slice Ao86 t367.length co86)).setCell ⟨gb373, 1, none⟩ (.slice Ao90 t370.length co90)).heap[gb344]? = some (.cells #[.slice (some ad359) l0_0.length c0_0, .slice A0_1 l0_1.length c0_1] 25 (0, 0))) := ⟨by (with_reducible repeat (first | refine qN ?_ _ | refine qD ?_ | refine qA ?_ _)); refine blk_far ?_ NB344_373.out _; (with_reducible repeat (first | refine qN ?_ _ | refine qD ?_ | refine qA ?_ _)); refine blk_far ?_ NB344_373.out _; (with_reducible repeat (first | refine qN ?_ _ | refine qD ?_ | refine qA ?_ _)); exact BK344.out⟩
             have n10_ : Aside0 (((w85.setCell ⟨gb373, 0, none⟩ (.slice Ao86 t367.length co86)).setCell ⟨gb373, 1, none⟩ (.slice Ao90 t370.length co90)).heap[gb354]? = some (.cells #[.slice Ao42 t348.length co42, .slice Ao45 t351.length co45] 25 (0, 0))) := ⟨by (with_reducible repeat (first | refine qN ?_ _ | refine qD ?_ | refine qA ?_ _)); refine blk_far ?_ NB354_373.out _; (with_reducible repeat (first | refine qN ?_ _ | refine qD ?_ | refine qA ?_ _)); refine blk_far ?_ NB354_373.out _; (with_reducible repeat (first | refine qN ?_ _ | refine qD ?_ | refine qA ?_ _)); exact BK354.out⟩
             have n11_ : Aside0 (((w85.setCell ⟨gb373, 0, none⟩ (.slice Ao86 t367.length co86)).setCell ⟨gb373, 1, none⟩ (.slice Ao90 t370.length co90)).heap[gb373]? = some (.cells #[.slice Ao86 t367.length co86, .slice Ao90 t370.length co90] 25 (0, 0))) := ⟨by (with_reducible repeat (first | refine qN ?_ _ | refine qD ?_ | refine qA ?_ _)); refine blk_put (cs := #[.slice Ao86 t367.length co86, .slice none 0 0]) ?_ 1 _ rfl; (with_reducible repeat (first | refine qN ?_ _ | refine qD ?_ | refine qA ?_ _)); refine blk_put (cs := #[.slice none 0 0, .slice none 0 0]) ?_ 0 _ rfl; (with_reducible repeat (first | refine qN ?_ _ | refine qD ?_ | refine qA ?_ _)); exact BK373.out⟩
             have n12_ : Aside0 (Below w.heap.size w ((w85.setCell ⟨gb373, 0, none⟩ (.slice Ao86 t367.length co86)).setCell ⟨gb373, 1, none⟩ (.slice Ao90 t370.length co90))) := ⟨by repeat (first | (with_reducible first | exact HB.out | apply pA | apply pN | apply pD | refine pS ?_ GE344.out | refine pS ?_ GE354.out | refine pS ?_ GE373.out) | exact HB.out)⟩
             (try clear HO_9)
             (try clear HO_11)
             (try clear HO_12)
             (try clear HO_345000)
             (try clear HO_345001)
             (try clear HO_355000)
             (try clear HO_355001)
             (try clear HO369)
             (try clear HO372)
             (try clear BK344)
             (try clear BK354)
             (try clear BK373)
             (try clear HB)
             generalize ((w85.setCell ⟨gb373, 0, none⟩ (.slice Ao86 t367.length co86)).setCell ⟨gb373, 1, none⟩ (.slice Ao90 t370.length co90)) = w114 at n0_ n1_ n2_ n3_ n4_ n5_ n6_ n7_ n8_ n9_ n10_ n11_ n12_ ⊢
             have HO_9 := n0_
             have HO_11 := n1_
             have HO_12 := n2_
             have HO_345000 := n3_
             have HO_345001 := n4_
             have HO_355000 := n5_
             have HO_355001 := n6_
             have HO369 := n7_
             have HO372 := n8_
             have BK344 := n9_
             have BK354 := n10_
             have BK373 := n11_
             have HB := n12_
             clear n0_ n1_ n2_ n3_ n4_ n5_ n6_ n7_ n8_ n9_ n10_ n11_ n12_
             have n0_ := Aside0.mk (Kd.R_drew HO_9.out)
             have n1_ := Aside0.mk (Kd.V_drew HO_11.out)
             have n2_ := Aside0.mk (Kd.R_drew HO_12.out)
             have n3_ := Aside0.mk (Kd.V_drew HO_345000.out)
             have n4_ := Aside0.mk (Kd.V_drew HO_345001.out)
             have n5_ := Aside0.mk (Kd.N_drew HO_355000.out)
             have n6_ := Aside0.mk (Kd.N_drew HO_355001.out)
             have n7_ := Aside0.mk (Kd.N_drew HO369.out)
             have n8_ := Aside0.mk (Kd.N_drew HO372.out)
             have n9_ := Aside0.mk (qD BK344.out)
             have n10_ := Aside0.mk (qD BK354.out)
             have n11_ := Aside0.mk (qD BK373.out)
             have n12_ := Aside0.mk (pD HB.out)
             clear HO_9
             clear HO_11
             clear HO_12
             clear HO_345000
             clear HO_345001
             clear HO_355000
             clear HO_355001
             clear HO369
             clear HO372
             clear BK344
             clear BK354
             clear BK373
             clear HB
             have HO_9 := n0_
             have HO_11 := n1_
             have HO_12 := n2_
             have HO_345000 := n3_
             have HO_345001 := n4_
             have HO_355000 := n5_
             have HO_355001 := n6_
             have HO369 := n7_
             have HO372 := n8_
             have BK344 := n9_
             have BK354 := n10_
             have BK373 := n11_
             have HB := n12_
             clear n0_ n1_ n2_ n3_ n4_ n5_ n6_ n7_ n8_ n9_ n10_ n11_ n12_
             refine start_ (n := 22) (S := fun w' => True) (ds := []) #[oO, oO, oO, oO, oO, oO, oO, oO, oO, oO, oO, oO, oO, oO, oO, oO, oO, oO, oO, oO, oO, oO] (by kernel_rfl) rfl rfl trivial (fun hHeld => ?_); refine with_tabW portreevelaw03_DiskCrashes.tab15 portreevelaw03_DiskCrashes.bits15 (fun HT_ HW_ => ?_)
             generalize w114.drew = w115 at HO_9 HO_11 HO_12 HO_345000 HO_345001 HO_355000 HO_355001 HO369 HO372 BK344 BK354 BK373 HB hHeld ⊢
             refine pure_ (i := 0) (N := some 94) (v := ?_) (a' := ?_) #[oI, oO, oO, oO, oO, oO, oO, oO, oO, oO, oO, oO, oO, oO, oO, oO, oO, oO, oO, oO, oO, oO] rfl rfl (any_of HT_.out (by kernel_rfl)) (fun _ _ _ h => h) (Or.inl ⟨by rfl, ?_⟩) ?_ ?_
             rotate_left
             ·intro w'
              go_simp
              with_reducible rfl
             rotate_left
             ·simp only [Act.put, sT, s0, s1, i64_w, i32_w]
              rfl
             refine pure_ (i := 1) (N := some 95) (v := ?_) (a' := ?_) #[oI, oI, oO, oO, oO, oO, oO, oO, oO, oO, oO, oO, oO, oO, oO, oO, oO, oO, oO, oO, oO, oO] rfl rfl (any_of HT_.out (by kernel_rfl)) (fun _ _ _ h => h) (Or.inl ⟨by rfl, ?_⟩) ?_ ?_
             rotate_left
             ·intro w'
              go_simp
              with_reducible rfl
             rotate_left
             ·simp only [Act.put, sT, s0, s1, i64_w, i32_w]
              rfl
             refine pure_ (i := 2) (N := some 96) (v := ?_) (a' := ?_) #[oI, oI, oI, oO, oO, oO, oO, oO, oO, oO, oO, oO, oO, oO, oO, oO, oO, oO, oO, oO, oO, oO] rfl rfl (any_of HT_.out (by kernel_rfl)) (fun _ _ _ h => h) (Or.inl ⟨by rfl, ?_⟩) ?_ ?_
             rotate_left
             ·intro w'
              go_simp
              with_reducible rfl
             rotate_left
             ·simp only [Act.put, sT, s0, s1, i64_w, i32_w]
              rfl
             refine pure_ (i := 3) (N := some 97) (v := undef) (a' := ?_) #[oI, oI, oI, oI, oO, oO, oO, oO, oO, oO, oO, oO, oO, oO, oO, oO, oO, oO, oO, oO, oO, oO] rfl rfl (any_of HT_.out (by kernel_rfl)) (fun _ _ _ h => h) (Or.inr ⟨by rfl, rfl⟩) ?_ ?_
             rotate_left
             ·simp only [Act.put, sT, s0, s1, i64_w, i32_w]
              rfl
             refine pure_ (i := 4) (N := some 98) (v := undef) (a' := ?_) #[oI, oI, oI, oI, oI, oO, oO, oO, oO, oO, oO, oO, oO, oO, oO, oO, oO, oO, oO, oO, oO, oO] rfl rfl (any_of HT_.out (by kernel_rfl)) (fun _ _ _ h => h) (Or.inr ⟨by rfl, rfl⟩) ?_ ?_
             rotate_left
             ·simp only [Act.put, sT, s0, s1, i64_w, i32_w]
              rfl
             refine pure_ (i := 5) (N := some 99) (v := undef) (a' := ?_) #[oI, oI, oI, oI, oI, oI, oO, oO, oO, oO, oO, oO, oO, oO, oO, oO, oO, oO, oO, oO, oO, oO] rfl rfl (any_of HT_.out (by kernel_rfl)) (fun _ _ _ h => h) (Or.inr ⟨by rfl, rfl⟩) ?_ ?_
             rotate_left
             ·simp only [Act.put, sT, s0, s1, i64_w, i32_w]
              rfl
             refine pure_ (i := 6) (N := some 100) (v := undef) (a' := ?_) #[oI, oI, oI, oI, oI, oI, oI, oO, oO, oO, oO, oO, oO, oO, oO, oO, oO, oO, oO, oO, oO, oO] rfl rfl (any_of HT_.out (by kernel_rfl)) (fun _ _ _ h => h) (Or.inr ⟨by rfl, rfl⟩) ?_ ?_
             rotate_left
             ·simp only [Act.put, sT, s0, s1, i64_w, i32_w]
              rfl
             refine pure_ (i := 7) (N := some 101) (v := ?_) (a' := ?_) #[oI, oI, oI, oI, oI, oI, oI, oI, oO, oO, oO, oO, oO, oO, oO, oO, oO, oO, oO, oO, oO, oO] rfl rfl (any_of HT_.out (by kernel_rfl)) (fun _ _ _ h => h) (Or.inl ⟨by rfl, ?_⟩) ?_ ?_
             rotate_left
             ·intro w'
              go_simp
              with_reducible rfl
             rotate_left
             ·simp only [Act.put, sT, s0, s1, i64_w, i32_w]
              rfl
             refine pure_ (i := 8) (N := some 102) (v := ?_) (a' := ?_) #[oI, oI, oI, oI, oI, oI, oI, oI, oI, oO, oO, oO, oO, oO, oO, oO, oO, oO, oO, oO, oO, oO] rfl rfl (any_of HT_.out (by kernel_rfl)) (fun _ _ _ h => h) (Or.inl ⟨by rfl, ?_⟩) ?_ ?_
             rotate_left
             ·intro w'
              go_simp
              with_reducible rfl
             rotate_left
             ·simp only [Act.put, sT, s0, s1, i64_w, i32_w]
              rfl
             refine pure_ (i := 9) (N := some 103) (v := undef) (a' := ?_) #[oI, oI, oI, oI, oI, oI, oI, oI, oI, oI, oO, oO, oO, oO, oO, oO, oO, oO, oO, oO, oO, oO] rfl rfl (any_of HT_.out (by kernel_rfl)) (fun _ _ _ h => h) (Or.inr ⟨by rfl, rfl⟩) ?_ ?_
             rotate_left
             ·simp only [Act.put, sT, s0, s1, i64_w, i32_w]
              rfl
             refine pure_ (i := 10) (N := some 104) (v := undef) (a' := ?_) #[oI, oI, oI, oI, oI, oI, oI, oI, oI, oI, oI, oO, oO, oO, oO, oO, oO, oO, oO, oO, oO, oO] rfl rfl (any_of HT_.out (by kernel_rfl)) (fun _ _ _ h => h) (Or.inr ⟨by rfl, rfl⟩) ?_ ?_
             rotate_left
             ·simp only [Act.put, sT, s0, s1, i64_w, i32_w]
              rfl
             refine pure_ (i := 11) (N := some 105) (v := undef) (a' := ?_) #[oI, oI, oI, oI, oI, oI, oI, oI, oI, oI, oI, oI, oO, oO, oO, oO, oO, oO, oO, oO, oO, oO] rfl rfl (any_of HT_.out (by kernel_rfl)) (fun _ _ _ h => h) (Or.inr ⟨by rfl, rfl⟩) ?_ ?_
             rotate_left
             ·simp only [Act.put, sT, s0, s1, i64_w, i32_w]
              rfl
             refine pure_ (i := 12) (N := some 106) (v := undef) (a' := ?_) #[oI, oI, oI, oI, oI, oI, oI, oI, oI, oI, oI, oI, oI, oO, oO, oO, oO, oO, oO, oO, oO, oO] rfl rfl (any_of HT_.out (by kernel_rfl)) (fun _ _ _ h => h) (Or.inr ⟨by rfl, rfl⟩) ?_ ?_
             rotate_left
             ·simp only [Act.put, sT, s0, s1, i64_w, i32_w]
              rfl
             refine pure_ (i := 13) (N := some 107) (v := ?_) (a' := ?_) #[oI, oI, oI, oI, oI, oI, oI, oI, oI, oI, oI, oI, oI, oI, oO, oO, oO, oO, oO, oO, oO, oO] rfl rfl (any_of HT_.out (by kernel_rfl)) (fun _ _ _ h => h) (Or.inl ⟨by rfl, ?_⟩) ?_ ?_
             rotate_left
             ·intro w'
              go_simp
              with_reducible rfl
             rotate_left
             ·simp only [Act.put, sT, s0, s1, i64_w, i32_w]
              rfl
             refine pure_ (i := 14) (N := some 108) (v := ?_) (a' := ?_) #[oI, oI, oI, oI, oI, oI, oI, oI, oI, oI, oI, oI, oI, oI, oI, oO, oO, oO, oO, oO, oO, oO] rfl rfl (any_of HT_.out (by kernel_rfl)) (fun _ _ _ h => h) (Or.inl ⟨by rfl, ?_⟩) ?_ ?_
             rotate_left
             ·intro w'
              go_simp
              with_reducible rfl
             rotate_left
             ·simp only [Act.put, sT, s0, s1, i64_w, i32_w]
              rfl
             refine pure_ (i := 15) (N := some 109) (v := undef) (a' := ?_) #[oI, oI, oI, oI, oI, oI, oI, oI, oI, oI, oI, oI, oI, oI, oI, oI, oO, oO, oO, oO, oO, oO] rfl rfl (any_of HT_.out (by kernel_rfl)) (fun _ _ _ h => h) (Or.inr ⟨by rfl, rfl⟩) ?_ ?_
             rotate_left
             ·simp only [Act.put, sT, s0, s1, i64_w, i32_w]
              rfl
             refine pure_ (i := 16) (N := some 110) (v := undef) (a' := ?_) #[oI, oI, oI, oI, oI, oI, oI, oI, oI, oI, oI, oI, oI, oI, oI, oI, oI, oO, oO, oO, oO, oO] rfl rfl (any_of HT_.out (by kernel_rfl)) (fun _ _ _ h => h) (Or.inr ⟨by rfl, rfl⟩) ?_ ?_
             rotate_left
             ·simp only [Act.put, sT, s0, s1, i64_w, i32_w]
              rfl
             refine pure_ (i := 17) (N := some 111) (v := undef) (a' := ?_) #[oI, oI, oI, oI, oI, oI, oI, oI, oI, oI, oI, oI, oI, oI, oI, oI, oI, oI, oO, oO, oO, oO] rfl rfl (any_of HT_.out (by kernel_rfl)) (fun _ _ _ h => h) (Or.inr ⟨by rfl, rfl⟩) ?_ ?_
             rotate_left
             ·simp only [Act.put, sT, s0, s1, i64_w, i32_w]
              rfl
             refine pure_ (i := 18) (N := some 112) (v := undef) (a' := ?_) #[oI, oI, oI, oI, oI, oI, oI, oI, oI, oI, oI, oI, oI, oI, oI, oI, oI, oI, oI, oO, oO, oO] rfl rfl (any_of HT_.out (by kernel_rfl)) (fun _ _ _ h => h) (Or.inr ⟨by rfl, rfl⟩) ?_ ?_
             rotate_left
             ·simp only [Act.put, sT, s0, s1, i64_w, i32_w]
              rfl
             refine pure_ (i := 19) (N := some 113) (v := undef) (a' := ?_) #[oI, oI, oI, oI, oI, oI, oI, oI, oI, oI, oI, oI, oI, oI, oI, oI, oI, oI, oI, oI, oO, oO] rfl rfl (any_of HT_.out (by kernel_rfl)) (fun _ _ _ h => h) (Or.inr ⟨by rfl, rfl⟩) ?_ ?_
             rotate_left
             ·simp only [Act.put, sT, s0, s1, i64_w, i32_w]
              rfl
             refine pure_ (i := 20) (N := some 114) (v := undef) (a' := ?_) #[oI, oI, oI, oI, oI, oI, oI, oI, oI, oI, oI, oI, oI, oI, oI, oI, oI, oI, oI, oI, oI, oO] rfl rfl (any_of HT_.out (by kernel_rfl)) (fun _ _ _ h => h) (Or.inr ⟨by rfl, rfl⟩) ?_ ?_
             rotate_left
             ·simp only [Act.put, sT, s0, s1, i64_w, i32_w]
              rfl
             refine pure_ (i := 21) (N := some 115) (v := ?_) (a' := ?_) #[oI, oI, oI, oI, oI, oI, oI, oI, oI, oI, oI, oI, oI, oI, oI, oI, oI, oI, oI, oI, oI, oI] rfl rfl (any_of HT_.out (by kernel_rfl)) (fun _ _ _ h => h) (Or.inl ⟨by rfl, ?_⟩) ?_ ?_
             rotate_left
             ·intro w'
              go_simp
              with_reducible rfl
             rotate_left
             ·simp only [Act.put, sT, s0, s1, i64_w, i32_w]
              rfl
             refine done_ (done_of HT_.out (by kernel_rfl)) ?_
             try go_wp2
             go_meet
             case rel => exact ⟨_, (true), (by first | rfl | (simp; done) | (simp [*]; done)), H', ⟨by have := HJ4.out; have := HK2.out; first | omega | exact Nat.le_refl _⟩, ⟨zV (Kd.V_mono HO_345000.out (fun _ hk => ⟨hk.1, ⟨hk.2.2.2.1, ⟨hk.2.2.2.2.1, ⟨hk.2.2.2.2.2.1, ⟨hk.2.2.2.2.2.2.1, ⟨hk.2.2.2.2.2.2.2.1, ⟨hk.2.2.2.2.2.2.2.2.1, hk.2.2.2.2.2.2.2.2.2⟩⟩⟩⟩⟩⟩⟩))⟩, ⟨zV (Kd.V_mono HO_345001.out (fun _ hk => ⟨hk.1, ⟨hk.2.2.2.1, ⟨hk.2.2.2.2.1, ⟨hk.2.2.2.2.2.1, ⟨hk.2.2.2.2.2.2.1, ⟨hk.2.2.2.2.2.2.2.1, ⟨hk.2.2.2.2.2.2.2.2.1, hk.2.2.2.2.2.2.2.2.2⟩⟩⟩⟩⟩⟩⟩))⟩, ⟨zN (Kd.N_mono HO_355000.out (fun _ hk => ⟨hk.1, ⟨hk.2.2.2.1, ⟨hk.2.2.2.2.1, ⟨hk.2.2.2.2.2.1, ⟨hk.2.2.2.2.2.2.1, ⟨hk.2.2.2.2.2.2.2.1, hk.2.2.2.2.2.2.2.2⟩⟩⟩⟩⟩⟩))⟩, ⟨zN (Kd.N_mono HO_355001.out (fun _ hk => ⟨hk.1, ⟨hk.2.2.2.1, ⟨hk.2.2.2.2.1, ⟨hk.2.2.2.2.2.1, ⟨hk.2.2.2.2.2.2.1, ⟨hk.2.2.2.2.2.2.2.1, hk.2.2.2.2.2.2.2.2⟩⟩⟩⟩⟩⟩))⟩, ⟨zN (Kd.N_mono HO369.out (fun _ hk => ⟨hk.1, ⟨hk.2.2.2.1, ⟨hk.2.2.2.2.1, ⟨hk.2.2.2.2.2.1, ⟨hk.2.2.2.2.2.2.1, ⟨hk.2.2.2.2.2.2.2.1, hk.2.2.2.2.2.2.2.2⟩⟩⟩⟩⟩⟩))⟩, ⟨zN (Kd.N_mono HO372.out (fun _ hk => ⟨hk.1, ⟨hk.2.2.2.1, ⟨hk.2.2.2.2.1, ⟨hk.2.2.2.2.2.1, ⟨hk.2.2.2.2.2.2.1, ⟨hk.2.2.2.2.2.2.2.1, hk.2.2.2.2.2.2.2.2⟩⟩⟩⟩⟩⟩))⟩, ⟨zB BK344.out⟩, ⟨zB BK354.out⟩, ⟨zB BK373.out⟩, ⟨by repeat (first | (with_reducible first | exact HB.out | apply pA | apply pN | apply pD | refine pS ?_ GE344.out | refine pS ?_ GE354.out | refine pS ?_ GE373.out) | exact HB.out)⟩⟩
           case rest =>
            clear HC81
            try clear c1
            try clear p2
            try clear c9
            try clear c17
            try clear c91
            try clear c91b0
            try clear c91b1
            try clear c93
            obtain ⟨kq, x115_80, rfl, HA, HJ80, HO_345000, HO_345001, HO_355000, HO_355001, HO_374000, HO_374001, BK344, BK354, BK373, HB⟩ := hcut
            cases kq with
            | zero => exact absurd HA.out (by simp [portreevelaw03_DiskCrashes.j2])
            | succ kj80 =>
             have H := HA.out
             clear HA
             simp only [portreevelaw03_DiskCrashes.j2] at H
             by_cases c116 : x115_80 = true
             ·subst c116
              have H1 : (some false) = some r := by rw [if_pos rfl] at H; exact H
              clear H
              have H := H1
              clear H1
              exact absurd ((Option.some.inj H).trans hlaw_.out) (by decide)
             ·replace c116 := Bool.eq_false_iff.mpr c116
              subst c116
              have H1 : (if t345 = true then ((disk_Flush.f kj80 t367 t370).bind fun bt382 => ((portreeveref03_Same.f kj80 bt382.1 bt382.2 t367 t370).bind fun t388 => (if t388 = true then ((disk_Crash.f kj80 t367 t370 l2).bind fun bt389 => ((portreeveref03_Same.f kj80 bt389.1 bt389.2 t367 t370).bind fun t395 => (some t395))) else (some false)))) else (some false)) = some r := by rw [if_neg (show ¬ (false = true) by decide)] at H; exact H
              clear H
              have H := H1
              clear H1
              by_cases c117 : t345 = true
              ·subst c117
               have H1 : ((disk_Flush.f kj80 t367 t370).bind fun bt382 => ((portreeveref03_Same.f kj80 bt382.1 bt382.2 t367 t370).bind fun t388 => (if t388 = true then ((disk_Crash.f kj80 t367 t370 l2).bind fun bt389 => ((portreeveref03_Same.f kj80 bt389.1 bt389.2 t367 t370).bind fun t395 => (some t395))) else (some false)))) = some r := by rw [if_pos rfl] at H; exact H
               clear H
               have H := H1
               clear H1
               replace H := Option.bind_eq_some_iff.mp H
               obtain ⟨⟨t382, t385⟩, A1180, H⟩ := H
               replace H : ((portreeveref03_Same.f kj80 t382 t385 t367 t370).bind fun t388 => (if t388 = true then ((disk_Crash.f kj80 t367 t370 l2).bind fun bt389 => ((portreeveref03_Same.f kj80 bt389.1 bt389.2 t367 t370).bind fun t395 => (some t395))) else (some false))) = some r := H
               have A118 := Aside0.mk A1180
               clear A1180
               replace H := Option.bind_eq_some_iff.mp H
               obtain ⟨t388, A1190, H⟩ := H
               replace H : (if t388 = true then ((disk_Crash.f kj80 t367 t370 l2).bind fun bt389 => ((portreeveref03_Same.f kj80 bt389.1 bt389.2 t367 t370).bind fun t395 => (some t395))) else (some false)) = some r := H
               have A119 := Aside0.mk A1190
               clear A1190
               by_cases c120 : t388 = true
               ·subst c120
                have H1 : ((disk_Crash.f kj80 t367 t370 l2).bind fun bt389 => ((portreeveref03_Same.f kj80 bt389.1 bt389.2 t367 t370).bind fun t395 => (some t395))) = some r := by rw [if_pos rfl] at H; exact H
                clear H
                have H := H1
                clear H1
                replace H := Option.bind_eq_some_iff.mp H
                obtain ⟨⟨t389, t392⟩, A1210, H⟩ := H
                replace H : ((portreeveref03_Same.f kj80 t389 t392 t367 t370).bind fun t395 => (some t395)) = some r := H
                have A121 := Aside0.mk A1210
                clear A1210
                replace H := Option.bind_eq_some_iff.mp H
                obtain ⟨t395, A1220, H⟩ := H
                replace H : (some t395) = some r := H
                have A122 := Aside0.mk A1220
                clear A1220
                clear hlaw_
                obtain rfl := Option.some.inj H
                try go_wp2
                have n0_ := Aside0.mk (Kd.V_drew HO_345000.out)
                have n1_ := Aside0.mk (Kd.V_drew HO_345001.out)
                have n2_ := Aside0.mk (Kd.N_drew HO_355000.out)
                have n3_ := Aside0.mk (Kd.N_drew HO_355001.out)
                have n4_ := Aside0.mk (Kd.N_drew HO_374000.out)
                have n5_ := Aside0.mk (Kd.N_drew HO_374001.out)
                have n6_ := Aside0.mk (qD BK344.out)
                have n7_ := Aside0.mk (qD BK354.out)
                have n8_ := Aside0.mk (qD BK373.out)
                have n9_ := Aside0.mk (pD HB.out)
                clear HO_345000
                clear HO_345001
                clear HO_355000
                clear HO_355001
                clear HO_374000
                clear HO_374001
                clear BK344
                clear BK354
                clear BK373
                clear HB
                have HO_345000 := n0_
                have HO_345001 := n1_
                have HO_355000 := n2_
                have HO_355001 := n3_
                have HO_374000 := n4_
                have HO_374001 := n5_
                have BK344 := n6_
                have BK354 := n7_
                have BK373 := n8_
                have HB := n9_
                clear n0_ n1_ n2_ n3_ n4_ n5_ n6_ n7_ n8_ n9_
                refine start_ (n := 15) (S := fun w' => w'.cell? ⟨gb373, 0, none⟩ = some (.slice Ao86 t367.length co86) ∧ w'.cell? ⟨gb373, 1, none⟩ = some (.slice Ao90 t370.length co90)) (ds := []) #[oO, oO, oO, oO, oO, oO, oO, oO, oO, oO, oO, oO, oO, oO, oO] (by kernel_rfl) rfl rfl ⟨(blk_cell BK373.out 0).trans rfl, (blk_cell BK373.out 1).trans rfl⟩ (fun hHeld => ?_); refine with_tabW portreevelaw03_DiskCrashes.tab17 portreevelaw03_DiskCrashes.bits17 (fun HT_ HW_ => ?_)
                generalize wc.drew = w123 at HO_345000 HO_345001 HO_355000 HO_355001 HO_374000 HO_374001 BK344 BK354 BK373 HB hHeld ⊢
                refine pure_ (i := 0) (N := some 116) (v := ?_) (a' := ?_) #[oI, oO, oO, oO, oO, oO, oO, oO, oO, oO, oO, oO, oO, oO, oO] rfl rfl (any_of HT_.out (by kernel_rfl)) (fun _ _ _ h => h) (Or.inl ⟨by rfl, ?_⟩) ?_ ?_
                rotate_left
                ·intro w'
                 go_simp
                 with_reducible rfl
                rotate_left
                ·simp only [Act.put, sT, s0, s1, i64_w, i32_w]
                 rfl
                refine pure_ (i := 1) (N := some 117) (v := ?_) (a' := ?_) #[oI, oI, oO, oO, oO, oO, oO, oO, oO, oO, oO, oO, oO, oO, oO] rfl rfl (any_of HT_.out (by kernel_rfl)) (fun _ _ _ h => h) (Or.inl ⟨by rfl, ?_⟩) ?_ ?_
                rotate_left
                ·intro w'
                 go_simp
                 with_reducible rfl
                rotate_left
                ·simp only [Act.put, sT, s0, s1, i64_w, i32_w]
                 rfl
                refine take_ (i := 2) (N := some 118) (v := ?_) (a' := ?_) #[oI, oI, oI, oO, oO, oO, oO, oO, oO, oO, oO, oO, oO, oO, oO] rfl rfl (take_ofW HT_.out HW_.out (by kernel_rfl)) (fun _ _ _ h => h) (Or.inl ⟨by rfl, ?_⟩) hHeld ?_ ?_
                rotate_left
                ·rintro w' ⟨s0, s1⟩
                 go_simp
                 with_reducible rfl
                rotate_left
                ·simp only [Act.put, sT, s0, s1, i64_w, i32_w]
                 rfl
                refine take_ (i := 4) (N := some 120) (v := ?_) (a' := ?_) #[oI, oI, oI, oO, oI, oO, oO, oO, oO, oO, oO, oO, oO, oO, oO] rfl rfl (take_ofW HT_.out HW_.out (by kernel_rfl)) (fun _ _ _ h => h) (Or.inl ⟨by rfl, ?_⟩) hHeld ?_ ?_
                rotate_left
                ·rintro w' ⟨s0, s1⟩
                 go_simp
                 with_reducible rfl
                rotate_left
                ·simp only [Act.put, sT, s0, s1, i64_w, i32_w]
                 rfl
                refine one_ (i := 3) (N := some 119) #[oI, oI, oI, oI, oI, oO, oO, oO, oO, oO, oO, oO, oO, oO, oO] rfl rfl (one_of HT_.out (by kernel_rfl)) (by decide) (fun K hK => ?_)
                refine goes_ Try.func18 (by kernel_rfl) rfl #[.agg #[.slice Ao86 t367.length co86, .slice Ao90 t370.length co90]] (by rfl) rfl rfl (by (try simp only [List.map_toArray, List.map_cons, List.map_nil]); first | done | rfl | (simp only [List.length_drop, List.length_take]; rfl)) ?_
                with_reducible refine (disk_Flush.calls kj80 (fun k_ => (((P0_0_ k_ ∨ P0_1_ k_) ∨ w.heap.size ≤ k_) ∧ (some k_ ≠ (.slice Ao42 t348.length co42 : Value).ownBlock ∧ (some k_ ≠ (.slice Ao45 t351.length co45 : Value).ownBlock ∧ (some k_ ≠ (.slice Ao90 t370.length co90 : Value).ownBlock ∧ (k_ ≠ gb344 ∧ (k_ ≠ gb354 ∧ k_ ≠ gb373))))))) _ _ t367 _ _ t370 t382 t385 _ ?side1 ?side2 ?side3 A118.out).mono ?_
                (case side1 => exact Kd.N_V (HO_374000.out))
                (case side2 => repeat (first | exact (Kd.N_reads' HO_374001.out).2.2 | (with_reducible refine Kd.C_alloc ?_ _) | (with_reducible refine Kd.C_drewN ?_ _) | (with_reducible refine Kd.C_drew ?_)))
                (case side3 => exact (Kd.N_reads' HO_374001.out).2.1)
                rintro e w124 ⟨v383, v386, rfl, ho0, ho1, hb⟩
                refine ⟨_, rfl, ?_⟩
                have n0_ := Aside0.mk (Kd.V_mono (Kd.V_told (Kd.V_told (Kd.V_old (zV HO_345000.out) hb) (Kd.N_base ho0)) (Kd.N_base ho1)) (fun _ h_ => h_.1))
                have n1_ := Aside0.mk (Kd.V_mono (Kd.V_told (Kd.V_told (Kd.V_old (zV HO_345001.out) hb) (Kd.N_base ho0)) (Kd.N_base ho1)) (fun _ h_ => h_.1))
                have n2_ := Aside0.mk (Kd.N_mono (Kd.N_told (Kd.N_told (Kd.N_old (zN HO_355000.out) hb) (Kd.N_base ho0)) (Kd.N_base ho1)) (fun _ h_ => h_.1))
                have n3_ := Aside0.mk (Kd.N_mono (Kd.N_told (Kd.N_told (Kd.N_old (zN HO_355001.out) hb) (Kd.N_base ho0)) (Kd.N_base ho1)) (fun _ h_ => h_.1))
                have n4_ := Aside0.mk (Kd.N_mono (Kd.N_told (Kd.N_told (Kd.N_old (zN HO_374000.out) hb) (Kd.N_base ho0)) (Kd.N_base ho1)) (fun _ h_ => h_.1))
                have n5_ := Aside0.mk (Kd.N_mono (Kd.N_told (Kd.N_told (Kd.N_old (zN HO_374001.out) hb) (Kd.N_base ho0)) (Kd.N_base ho1)) (fun _ h_ => h_.1))
                have n6_ := Aside0.mk (Kd.N_lower (Kd.N_mono (ok' := fun k_ => ((P0_0_ k_ ∨ P0_1_ k_) ∨ w.heap.size ≤ k_) ∧ some k_ ≠ (v386 : Value).ownBlock ∧ some k_ ≠ (.slice Ao42 t348.length co42 : Value).ownBlock ∧ some k_ ≠ (.slice Ao45 t351.length co45 : Value).ownBlock ∧ some k_ ≠ (.slice Ao90 t370.length co90 : Value).ownBlock ∧ k_ ≠ gb344 ∧ k_ ≠ gb354 ∧ k_ ≠ gb373) ho0 (fun k_ hk_ => ⟨Or.elim hk_.1 (fun hs_ => hs_.1) (fun hn_ => (.inr (Nat.le_trans (below_size (by repeat (first | (with_reducible first | exact HB.out | apply pA | apply pN | apply pD | refine pS ?_ GE344.out | refine pS ?_ GE354.out | refine pS ?_ GE373.out) | exact HB.out))) hn_))), hk_.2, Or.elim hk_.1 (fun hs_ => hs_.2.1) (fun hn_ => (Kd.fresh' (Kd.N_lt (zN HO_355000.out)) k_ hn_)), Or.elim hk_.1 (fun hs_ => hs_.2.2.1) (fun hn_ => (Kd.fresh' (Kd.N_lt (zN HO_355001.out)) k_ hn_)), Or.elim hk_.1 (fun hs_ => hs_.2.2.2.1) (fun hn_ => (Kd.fresh' (Kd.N_lt (zN HO_374001.out)) k_ hn_)), Or.elim hk_.1 (fun hs_ => hs_.2.2.2.2.1) (fun hn_ => (Kd.freshB (g := gb344) (o := .cells #[.slice (some ad359) l0_0.length c0_0, .slice A0_1 l0_1.length c0_1] 25 (0, 0)) (zB BK344.out) k_ hn_)), Or.elim hk_.1 (fun hs_ => hs_.2.2.2.2.2.1) (fun hn_ => (Kd.freshB (g := gb354) (o := .cells #[.slice Ao42 t348.length co42, .slice Ao45 t351.length co45] 25 (0, 0)) (zB BK354.out) k_ hn_)), Or.elim hk_.1 (fun hs_ => hs_.2.2.2.2.2.2) (fun hn_ => (Kd.freshB (g := gb373) (o := .cells #[.slice Ao86 t367.length co86, .slice Ao90 t370.length co90] 25 (0, 0)) (zB BK373.out) k_ hn_))⟩)) (below_size (by repeat (first | (with_reducible first | exact HB.out | apply pA | apply pN | apply pD | refine pS ?_ GE344.out | refine pS ?_ GE354.out | refine pS ?_ GE373.out) | exact HB.out))))
                have n7_ := Aside0.mk (Kd.N_lower (Kd.N_mono (ok' := fun k_ => ((P0_0_ k_ ∨ P0_1_ k_) ∨ w.heap.size ≤ k_) ∧ some k_ ≠ (v383 : Value).ownBlock ∧ some k_ ≠ (.slice Ao42 t348.length co42 : Value).ownBlock ∧ some k_ ≠ (.slice Ao45 t351.length co45 : Value).ownBlock ∧ some k_ ≠ (.slice Ao90 t370.length co90 : Value).ownBlock ∧ k_ ≠ gb344 ∧ k_ ≠ gb354 ∧ k_ ≠ gb373) ho1 (fun k_ hk_ => ⟨Or.elim hk_.1 (fun hs_ => hs_.1) (fun hn_ => (.inr (Nat.le_trans (below_size (by repeat (first | (with_reducible first | exact HB.out | apply pA | apply pN | apply pD | refine pS ?_ GE344.out | refine pS ?_ GE354.out | refine pS ?_ GE373.out) | exact HB.out))) hn_))), hk_.2, Or.elim hk_.1 (fun hs_ => hs_.2.1) (fun hn_ => (Kd.fresh' (Kd.N_lt (zN HO_355000.out)) k_ hn_)), Or.elim hk_.1 (fun hs_ => hs_.2.2.1) (fun hn_ => (Kd.fresh' (Kd.N_lt (zN HO_355001.out)) k_ hn_)), Or.elim hk_.1 (fun hs_ => hs_.2.2.2.1) (fun hn_ => (Kd.fresh' (Kd.N_lt (zN HO_374001.out)) k_ hn_)), Or.elim hk_.1 (fun hs_ => hs_.2.2.2.2.1) (fun hn_ => (Kd.freshB (g := gb344) (o := .cells #[.slice (some ad359) l0_0.length c0_0, .slice A0_1 l0_1.length c0_1] 25 (0, 0)) (zB BK344.out) k_ hn_)), Or.elim hk_.1 (fun hs_ => hs_.2.2.2.2.2.1) (fun hn_ => (Kd.freshB (g := gb354) (o := .cells #[.slice Ao42 t348.length co42, .slice Ao45 t351.length co45] 25 (0, 0)) (zB BK354.out) k_ hn_)), Or.elim hk_.1 (fun hs_ => hs_.2.2.2.2.2.2) (fun hn_ => (Kd.freshB (g := gb373) (o := .cells #[.slice Ao86 t367.length co86, .slice Ao90 t370.length co90] 25 (0, 0)) (zB BK373.out) k_ hn_))⟩)) (below_size (by repeat (first | (with_reducible first | exact HB.out | apply pA | apply pN | apply pD | refine pS ?_ GE344.out | refine pS ?_ GE354.out | refine pS ?_ GE373.out) | exact HB.out))))
                have n8_ := Aside0.mk (blk_below (g := gb344) (o := .cells #[.slice (some ad359) l0_0.length c0_0, .slice A0_1 l0_1.length c0_1] 25 (0, 0)) (zB BK344.out) hb)
                have n9_ := Aside0.mk (blk_below (g := gb354) (o := .cells #[.slice Ao42 t348.length co42, .slice Ao45 t351.length co45] 25 (0, 0)) (zB BK354.out) hb)
                have n10_ := Aside0.mk (blk_below (g := gb373) (o := .cells #[.slice Ao86 t367.length co86, .slice Ao90 t370.length co90] 25 (0, 0)) (zB BK373.out) hb)
                have n11_ := Aside0.mk (below_step (by repeat (first | (with_reducible first | exact HB.out | apply pA | apply pN | apply pD | refine pS ?_ GE344.out | refine pS ?_ GE354.out | refine pS ?_ GE373.out) | exact HB.out)) hb)
                clear HO_345000
                clear HO_345001
                clear HO_355000
                clear HO_355001
                clear HO_374000
                clear HO_374001
                clear BK344
                clear BK354
                clear BK373
                clear HB
                have HO_345000 := n0_
                have HO_345001 := n1_
                have HO_355000 := n2_
                have HO_355001 := n3_
                have HO_374000 := n4_
                have HO_374001 := n5_
                have HO384 := n6_
                have HO387 := n7_
                have BK344 := n8_
                have BK354 := n9_
                have BK373 := n10_
                have HB := n11_
                clear n0_ n1_ n2_ n3_ n4_ n5_ n6_ n7_ n8_ n9_ n10_ n11_
                (try clear hb)
                (try clear hb2)
                (try clear hk)
                (try clear hi)
                (try clear ho0)
                (try clear ho1)
                obtain ⟨Ao125, co125, eo125⟩ := Kd.N_slice HO384.out
                (first | subst eo125 | (injection eo125 with f1_ f2_ f3_; have f4_ := f1_.symm; have f5_ := f3_.symm; clear f1_ f2_ f3_; subst f4_; subst f5_))
                obtain ⟨Ao126, co126, eo126⟩ := Kd.N_slice HO387.out
                (first | subst eo126 | (injection eo126 with f1_ f2_ f3_; have f4_ := f1_.symm; have f5_ := f3_.symm; clear f1_ f2_ f3_; subst f4_; subst f5_))
                refine hK.out _ _ ⟨(blk_cell BK373.out 0).trans rfl, (blk_cell BK373.out 1).trans rfl⟩ (fun hHeld => ?_)
                clear hK K
                refine norm_ (a' := ?_) ?_ ?_
                rotate_left
                ·show Act.put _ (some 119) _ = _
                 simp only [Act.put, sT, s0, s1, i64_w, i32_w]
                 rfl
                refine one_ (i := 5) (N := some 121) #[oI, oI, oI, oI, oI, oI, oO, oO, oO, oO, oO, oO, oO, oO, oO] rfl rfl (one_of HT_.out (by kernel_rfl)) (by decide) (fun K hK => ?_)
                refine goes_ Try.func16 (by kernel_rfl) rfl #[.agg #[.slice Ao125 t382.length co125, .slice Ao126 t385.length co126], .agg #[.slice Ao86 t367.length co86, .slice Ao90 t370.length co90]] (by rfl) rfl rfl (by (try simp only [List.map_toArray, List.map_cons, List.map_nil]); first | done | rfl | (simp only [List.length_drop, List.length_take]; rfl)) ?_
                with_reducible refine (portreeveref03_Same.calls kj80 _ _ t382 _ _ t385 _ _ t367 _ _ t370 true _ ?side1 ?side2 ?side3 ?side4 ?side5 ?side6 ?side7 ?side8 A119.out).mono ?_
                (case side1 => repeat (first | exact (Kd.N_reads' HO384.out).2.2 | (with_reducible refine Kd.C_alloc ?_ _) | (with_reducible refine Kd.C_drewN ?_ _) | (with_reducible refine Kd.C_drew ?_)))
                (case side2 => exact (Kd.N_reads' HO384.out).2.1)
                (case side3 => repeat (first | exact (Kd.N_reads' HO387.out).2.2 | (with_reducible refine Kd.C_alloc ?_ _) | (with_reducible refine Kd.C_drewN ?_ _) | (with_reducible refine Kd.C_drew ?_)))
                (case side4 => exact (Kd.N_reads' HO387.out).2.1)
                (case side5 => repeat (first | exact (Kd.N_reads' HO_374000.out).2.2 | (with_reducible refine Kd.C_alloc ?_ _) | (with_reducible refine Kd.C_drewN ?_ _) | (with_reducible refine Kd.C_drew ?_)))
                (case side6 => exact (Kd.N_reads' HO_374000.out).2.1)
                (case side7 => repeat (first | exact (Kd.N_reads' HO_374001.out).2.2 | (with_reducible refine Kd.C_alloc ?_ _) | (with_reducible refine Kd.C_drewN ?_ _) | (with_reducible refine Kd.C_drew ?_)))
                (case side8 => exact (Kd.N_reads' HO_374001.out).2.1)
                rintro e w127 ⟨rfl, hb⟩
                refine ⟨_, rfl, ?_⟩
                have n0_ := Aside0.mk (Kd.V_below (zV HO_345000.out) hb)
                have n1_ := Aside0.mk (Kd.V_below (zV HO_345001.out) hb)
                have n2_ := Aside0.mk (Kd.N_below (zN HO_355000.out) hb)
                have n3_ := Aside0.mk (Kd.N_below (zN HO_355001.out) hb)
                have n4_ := Aside0.mk (Kd.N_below (zN HO_374000.out) hb)
                have n5_ := Aside0.mk (Kd.N_below (zN HO_374001.out) hb)
                have n6_ := Aside0.mk (Kd.N_below (zN HO384.out) hb)
                have n7_ := Aside0.mk (Kd.N_below (zN HO387.out) hb)
                have n8_ := Aside0.mk (blk_below (g := gb344) (o := .cells #[.slice (some ad359) l0_0.length c0_0, .slice A0_1 l0_1.length c0_1] 25 (0, 0)) (zB BK344.out) hb)
                have n9_ := Aside0.mk (blk_below (g := gb354) (o := .cells #[.slice Ao42 t348.length co42, .slice Ao45 t351.length co45] 25 (0, 0)) (zB BK354.out) hb)
                have n10_ := Aside0.mk (blk_below (g := gb373) (o := .cells #[.slice Ao86 t367.length co86, .slice Ao90 t370.length co90] 25 (0, 0)) (zB BK373.out) hb)
                have n11_ := Aside0.mk (below_step (by repeat (first | (with_reducible first | exact HB.out | apply pA | apply pN | apply pD | refine pS ?_ GE344.out | refine pS ?_ GE354.out | refine pS ?_ GE373.out) | exact HB.out)) hb)
                clear HO_345000
                clear HO_345001
                clear HO_355000
                clear HO_355001
                clear HO_374000
                clear HO_374001
                clear HO384
                clear HO387
                clear BK344
                clear BK354
                clear BK373
                clear HB
                have HO_345000 := n0_
                have HO_345001 := n1_
                have HO_355000 := n2_
                have HO_355001 := n3_
                have HO_374000 := n4_
                have HO_374001 := n5_
                have HO384 := n6_
                have HO387 := n7_
                have BK344 := n8_
                have BK354 := n9_
                have BK373 := n10_
                have HB := n11_
                clear n0_ n1_ n2_ n3_ n4_ n5_ n6_ n7_ n8_ n9_ n10_ n11_
                (try clear hb)
                (try clear hb2)
                (try clear hk)
                (try clear hi)
                refine hK.out _ _ ⟨(blk_cell BK373.out 0).trans rfl, (blk_cell BK373.out 1).trans rfl⟩ (fun hHeld => ?_)
                clear hK K
                refine norm_ (a' := ?_) ?_ ?_
                rotate_left
                ·show Act.put _ (some 121) _ = _
                 simp only [Act.put, sT, s0, s1, i64_w, i32_w]
                 rfl
                refine pure_ (i := 6) (N := some 122) (v := ?_) (a' := ?_) #[oI, oI, oI, oI, oI, oI, oI, oO, oO, oO, oO, oO, oO, oO, oO] rfl rfl (any_of HT_.out (by kernel_rfl)) (fun _ _ _ h => h) (Or.inl ⟨by rfl, ?_⟩) ?_ ?_
                rotate_left
                ·intro w'
                 go_simp
                 with_reducible rfl
                rotate_left
                ·simp only [Act.put, sT, s0, s1, i64_w, i32_w]
                 rfl
                refine pure_ (i := 7) (N := some 123) (v := ?_) (a' := ?_) #[oI, oI, oI, oI, oI, oI, oI, oI, oO, oO, oO, oO, oO, oO, oO] rfl rfl (any_of HT_.out (by kernel_rfl)) (fun _ _ _ h => h) (Or.inl ⟨by rfl, ?_⟩) ?_ ?_
                rotate_left
                ·intro w'
                 go_simp
                 with_reducible rfl
                rotate_left
                ·simp only [Act.put, sT, s0, s1, i64_w, i32_w]
                 rfl
                refine pure_ (i := 9) (N := some 125) (v := ?_) (a' := ?_) #[oI, oI, oI, oI, oI, oI, oI, oI, oO, oI, oO, oO, oO, oO, oO] rfl rfl (any_of HT_.out (by kernel_rfl)) (fun _ _ _ h => h) (Or.inl ⟨by rfl, ?_⟩) ?_ ?_
                rotate_left
                ·intro w'
                 go_simp
                 with_reducible rfl
                rotate_left
                ·simp only [Act.put, sT, s0, s1, i64_w, i32_w]
                 rfl
                refine take_ (i := 8) (N := some 124) (v := ?_) (a' := ?_) #[oI, oI, oI, oI, oI, oI, oI, oI, oI, oI, oO, oO, oO, oO, oO] rfl rfl (take_ofW HT_.out HW_.out (by kernel_rfl)) (fun _ _ _ h => h) (Or.inl ⟨by rfl, ?_⟩) hHeld ?_ ?_
                rotate_left
                ·rintro w' ⟨s0, s1⟩
                 go_simp
                 with_reducible rfl
                rotate_left
                ·simp only [Act.put, sT, s0, s1, i64_w, i32_w]
                 rfl
                refine take_ (i := 11) (N := some 127) (v := ?_) (a' := ?_) #[oI, oI, oI, oI, oI, oI, oI, oI, oI, oI, oO, oI, oO, oO, oO] rfl rfl (take_ofW HT_.out HW_.out (by kernel_rfl)) (fun _ _ _ h => h) (Or.inl ⟨by rfl, ?_⟩) hHeld ?_ ?_
                rotate_left
                ·rintro w' ⟨s0, s1⟩
                 go_simp
                 with_reducible rfl
                rotate_left
                ·simp only [Act.put, sT, s0, s1, i64_w, i32_w]
                 rfl
                refine one_ (i := 10) (N := some 126) #[oI, oI, oI, oI, oI, oI, oI, oI, oI, oI, oI, oI, oO, oO, oO] rfl rfl (one_of HT_.out (by kernel_rfl)) (by decide) (fun K hK => ?_)
                refine goes_ Try.func20 (by kernel_rfl) rfl #[.agg #[.slice Ao86 t367.length co86, .slice Ao90 t370.length co90], .slice A2 l2.length c2] (by rfl) rfl rfl (by (try simp only [List.map_toArray, List.map_cons, List.map_nil]); first | done | rfl | (simp only [List.length_drop, List.length_take]; rfl)) ?_
                with_reducible refine (disk_Crash.calls kj80 (fun k_ => (((((P0_0_ k_ ∨ P0_1_ k_) ∨ w.heap.size ≤ k_) ∧ (some k_ ≠ (.slice Ao42 t348.length co42 : Value).ownBlock ∧ (some k_ ≠ (.slice Ao45 t351.length co45 : Value).ownBlock ∧ (some k_ ≠ (.slice Ao90 t370.length co90 : Value).ownBlock ∧ (k_ ≠ gb344 ∧ (k_ ≠ gb354 ∧ k_ ≠ gb373)))))) ∧ some k_ ≠ (.slice Ao125 t382.length co125 : Value).ownBlock) ∧ some k_ ≠ (.slice Ao126 t385.length co126 : Value).ownBlock)) _ _ t367 (fun k_ => (((((P0_0_ k_ ∨ P0_1_ k_) ∨ w.heap.size ≤ k_) ∧ (some k_ ≠ (.slice Ao42 t348.length co42 : Value).ownBlock ∧ (some k_ ≠ (.slice Ao45 t351.length co45 : Value).ownBlock ∧ (some k_ ≠ (.slice Ao86 t367.length co86 : Value).ownBlock ∧ (k_ ≠ gb344 ∧ (k_ ≠ gb354 ∧ k_ ≠ gb373)))))) ∧ some k_ ≠ (.slice Ao125 t382.length co125 : Value).ownBlock) ∧ some k_ ≠ (.slice Ao126 t385.length co126 : Value).ownBlock)) _ _ t370 _ _ l2 t389 t392 _ ?side1 ?side2 ?side3 ?side4 A121.out).mono ?_
                (case side1 => exact Kd.N_V (HO_374000.out))
                (case side2 => exact Kd.N_V (HO_374001.out))
                (case side3 => repeat (first | exact (Kd.C_below HR2.out HB.out) | (with_reducible refine Kd.C_alloc ?_ _) | (with_reducible refine Kd.C_drewN ?_ _) | (with_reducible refine Kd.C_drew ?_)))
                (case side4 => exact HC2.out)
                rintro e w128 ⟨v390, v393, rfl, ho0, ho1, hb⟩
                refine ⟨_, rfl, ?_⟩
                have n0_ := Aside0.mk (Kd.V_mono (Kd.V_told (Kd.V_told (Kd.V_old (zV HO_345000.out) hb) (Kd.N_base ho0)) (Kd.N_base ho1)) (fun _ h_ => h_.1))
                have n1_ := Aside0.mk (Kd.V_mono (Kd.V_told (Kd.V_told (Kd.V_old (zV HO_345001.out) hb) (Kd.N_base ho0)) (Kd.N_base ho1)) (fun _ h_ => h_.1))
                have n2_ := Aside0.mk (Kd.N_mono (Kd.N_told (Kd.N_told (Kd.N_old (zN HO_355000.out) hb) (Kd.N_base ho0)) (Kd.N_base ho1)) (fun _ h_ => h_.1))
                have n3_ := Aside0.mk (Kd.N_mono (Kd.N_told (Kd.N_told (Kd.N_old (zN HO_355001.out) hb) (Kd.N_base ho0)) (Kd.N_base ho1)) (fun _ h_ => h_.1))
                have n4_ := Aside0.mk (Kd.N_mono (Kd.N_told (Kd.N_told (Kd.N_old (zN HO_374000.out) hb) (Kd.N_base ho0)) (Kd.N_base ho1)) (fun _ h_ => h_.1))
                have n5_ := Aside0.mk (Kd.N_mono (Kd.N_told (Kd.N_told (Kd.N_old (zN HO_374001.out) hb) (Kd.N_base ho0)) (Kd.N_base ho1)) (fun _ h_ => h_.1))
                have n6_ := Aside0.mk (Kd.N_mono (Kd.N_told (Kd.N_told (Kd.N_old (zN HO384.out) hb) (Kd.N_base ho0)) (Kd.N_base ho1)) (fun _ h_ => h_.1))
                have n7_ := Aside0.mk (Kd.N_mono (Kd.N_told (Kd.N_told (Kd.N_old (zN HO387.out) hb) (Kd.N_base ho0)) (Kd.N_base ho1)) (fun _ h_ => h_.1))
                have n8_ := Aside0.mk (Kd.N_lower (Kd.N_mono (ok' := fun k_ => ((P0_0_ k_ ∨ P0_1_ k_) ∨ w.heap.size ≤ k_) ∧ some k_ ≠ (v393 : Value).ownBlock ∧ some k_ ≠ (.slice Ao42 t348.length co42 : Value).ownBlock ∧ some k_ ≠ (.slice Ao45 t351.length co45 : Value).ownBlock ∧ some k_ ≠ (.slice Ao125 t382.length co125 : Value).ownBlock ∧ some k_ ≠ (.slice Ao126 t385.length co126 : Value).ownBlock ∧ k_ ≠ gb344 ∧ k_ ≠ gb354 ∧ k_ ≠ gb373) ho0 (fun k_ hk_ => ⟨Or.elim hk_.1 (fun hs_ => Or.elim hs_ (fun hs_ => hs_.1.1.1) (fun hs_ => hs_.1.1.1)) (fun hn_ => (.inr (Nat.le_trans (below_size (by repeat (first | (with_reducible first | exact HB.out | apply pA | apply pN | apply pD | refine pS ?_ GE344.out | refine pS ?_ GE354.out | refine pS ?_ GE373.out) | exact HB.out))) hn_))), hk_.2, Or.elim hk_.1 (fun hs_ => Or.elim hs_ (fun hs_ => hs_.1.1.2.1) (fun hs_ => hs_.1.1.2.1)) (fun hn_ => (Kd.fresh' (Kd.N_lt (zN HO_355000.out)) k_ hn_)), Or.elim hk_.1 (fun hs_ => Or.elim hs_ (fun hs_ => hs_.1.1.2.2.1) (fun hs_ => hs_.1.1.2.2.1)) (fun hn_ => (Kd.fresh' (Kd.N_lt (zN HO_355001.out)) k_ hn_)), Or.elim hk_.1 (fun hs_ => Or.elim hs_ (fun hs_ => hs_.1.2) (fun hs_ => hs_.1.2)) (fun hn_ => (Kd.fresh' (Kd.N_lt (zN HO384.out)) k_ hn_)), Or.elim hk_.1 (fun hs_ => Or.elim hs_ (fun hs_ => hs_.2) (fun hs_ => hs_.2)) (fun hn_ => (Kd.fresh' (Kd.N_lt (zN HO387.out)) k_ hn_)), Or.elim hk_.1 (fun hs_ => Or.elim hs_ (fun hs_ => hs_.1.1.2.2.2.2.1) (fun hs_ => hs_.1.1.2.2.2.2.1)) (fun hn_ => (Kd.freshB (g := gb344) (o := .cells #[.slice (some ad359) l0_0.length c0_0, .slice A0_1 l0_1.length c0_1] 25 (0, 0)) (zB BK344.out) k_ hn_)), Or.elim hk_.1 (fun hs_ => Or.elim hs_ (fun hs_ => hs_.1.1.2.2.2.2.2.1) (fun hs_ => hs_.1.1.2.2.2.2.2.1)) (fun hn_ => (Kd.freshB (g := gb354) (o := .cells #[.slice Ao42 t348.length co42, .slice Ao45 t351.length co45] 25 (0, 0)) (zB BK354.out) k_ hn_)), Or.elim hk_.1 (fun hs_ => Or.elim hs_ (fun hs_ => hs_.1.1.2.2.2.2.2.2) (fun hs_ => hs_.1.1.2.2.2.2.2.2)) (fun hn_ => (Kd.freshB (g := gb373) (o := .cells #[.slice Ao86 t367.length co86, .slice Ao90 t370.length co90] 25 (0, 0)) (zB BK373.out) k_ hn_))⟩)) (below_size (by repeat (first | (with_reducible first | exact HB.out | apply pA | apply pN | apply pD | refine pS ?_ GE344.out | refine pS ?_ GE354.out | refine pS ?_ GE373.out) | exact HB.out))))
                have n9_ := Aside0.mk (Kd.N_lower (Kd.N_mono (ok' := fun k_ => ((P0_0_ k_ ∨ P0_1_ k_) ∨ w.heap.size ≤ k_) ∧ some k_ ≠ (v390 : Value).ownBlock ∧ some k_ ≠ (.slice Ao42 t348.length co42 : Value).ownBlock ∧ some k_ ≠ (.slice Ao45 t351.length co45 : Value).ownBlock ∧ some k_ ≠ (.slice Ao125 t382.length co125 : Value).ownBlock ∧ some k_ ≠ (.slice Ao126 t385.length co126 : Value).ownBlock ∧ k_ ≠ gb344 ∧ k_ ≠ gb354 ∧ k_ ≠ gb373) ho1 (fun k_ hk_ => ⟨Or.elim hk_.1 (fun hs_ => Or.elim hs_ (fun hs_ => hs_.1.1.1) (fun hs_ => hs_.1.1.1)) (fun hn_ => (.inr (Nat.le_trans (below_size (by repeat (first | (with_reducible first | exact HB.out | apply pA | apply pN | apply pD | refine pS ?_ GE344.out | refine pS ?_ GE354.out | refine pS ?_ GE373.out) | exact HB.out))) hn_))), hk_.2, Or.elim hk_.1 (fun hs_ => Or.elim hs_ (fun hs_ => hs_.1.1.2.1) (fun hs_ => hs_.1.1.2.1)) (fun hn_ => (Kd.fresh' (Kd.N_lt (zN HO_355000.out)) k_ hn_)), Or.elim hk_.1 (fun hs_ => Or.elim hs_ (fun hs_ => hs_.1.1.2.2.1) (fun hs_ => hs_.1.1.2.2.1)) (fun hn_ => (Kd.fresh' (Kd.N_lt (zN HO_355001.out)) k_ hn_)), Or.elim hk_.1 (fun hs_ => Or.elim hs_ (fun hs_ => hs_.1.2) (fun hs_ => hs_.1.2)) (fun hn_ => (Kd.fresh' (Kd.N_lt (zN HO384.out)) k_ hn_)), Or.elim hk_.1 (fun hs_ => Or.elim hs_ (fun hs_ => hs_.2) (fun hs_ => hs_.2)) (fun hn_ => (Kd.fresh' (Kd.N_lt (zN HO387.out)) k_ hn_)), Or.elim hk_.1 (fun hs_ => Or.elim hs_ (fun hs_ => hs_.1.1.2.2.2.2.1) (fun hs_ => hs_.1.1.2.2.2.2.1)) (fun hn_ => (Kd.freshB (g := gb344) (o := .cells #[.slice (some ad359) l0_0.length c0_0, .slice A0_1 l0_1.length c0_1] 25 (0, 0)) (zB BK344.out) k_ hn_)), Or.elim hk_.1 (fun hs_ => Or.elim hs_ (fun hs_ => hs_.1.1.2.2.2.2.2.1) (fun hs_ => hs_.1.1.2.2.2.2.2.1)) (fun hn_ => (Kd.freshB (g := gb354) (o := .cells #[.slice Ao42 t348.length co42, .slice Ao45 t351.length co45] 25 (0, 0)) (zB BK354.out) k_ hn_)), Or.elim hk_.1 (fun hs_ => Or.elim hs_ (fun hs_ => hs_.1.1.2.2.2.2.2.2) (fun hs_ => hs_.1.1.2.2.2.2.2.2)) (fun hn_ => (Kd.freshB (g := gb373) (o := .cells #[.slice Ao86 t367.length co86, .slice Ao90 t370.length co90] 25 (0, 0)) (zB BK373.out) k_ hn_))⟩)) (below_size (by repeat (first | (with_reducible first | exact HB.out | apply pA | apply pN | apply pD | refine pS ?_ GE344.out | refine pS ?_ GE354.out | refine pS ?_ GE373.out) | exact HB.out))))
                have n10_ := Aside0.mk (blk_below (g := gb344) (o := .cells #[.slice (some ad359) l0_0.length c0_0, .slice A0_1 l0_1.length c0_1] 25 (0, 0)) (zB BK344.out) hb)
                have n11_ := Aside0.mk (blk_below (g := gb354) (o := .cells #[.slice Ao42 t348.length co42, .slice Ao45 t351.length co45] 25 (0, 0)) (zB BK354.out) hb)
                have n12_ := Aside0.mk (blk_below (g := gb373) (o := .cells #[.slice Ao86 t367.length co86, .slice Ao90 t370.length co90] 25 (0, 0)) (zB BK373.out) hb)
                have n13_ := Aside0.mk (below_step (by repeat (first | (with_reducible first | exact HB.out | apply pA | apply pN | apply pD | refine pS ?_ GE344.out | refine pS ?_ GE354.out | refine pS ?_ GE373.out) | exact HB.out)) hb)
                clear HO_345000
                clear HO_345001
                clear HO_355000
                clear HO_355001
                clear HO_374000
                clear HO_374001
                clear HO384
                clear HO387
                clear BK344
                clear BK354
                clear BK373
                clear HB
                have HO_345000 := n0_
                have HO_345001 := n1_
                have HO_355000 := n2_
                have HO_355001 := n3_
                have HO_374000 := n4_
                have HO_374001 := n5_
                have HO384 := n6_
                have HO387 := n7_
                have HO391 := n8_
                have HO394 := n9_
                have BK344 := n10_
                have BK354 := n11_
                have BK373 := n12_
                have HB := n13_
                clear n0_ n1_ n2_ n3_ n4_ n5_ n6_ n7_ n8_ n9_ n10_ n11_ n12_ n13_
                (try clear hb)
                (try clear hb2)
                (try clear hk)
                (try clear hi)
                (try clear ho0)
                (try clear ho1)
                obtain ⟨Ao129, co129, eo129⟩ := Kd.N_slice HO391.out
                (first | subst eo129 | (injection eo129 with f1_ f2_ f3_; have f4_ := f1_.symm; have f5_ := f3_.symm; clear f1_ f2_ f3_; subst f4_; subst f5_))
                obtain ⟨Ao130, co130, eo130⟩ := Kd.N_slice HO394.out
                (first | subst eo130 | (injection eo130 with f1_ f2_ f3_; have f4_ := f1_.symm; have f5_ := f3_.symm; clear f1_ f2_ f3_; subst f4_; subst f5_))
                refine hK.out _ _ ⟨(blk_cell BK373.out 0).trans rfl, (blk_cell BK373.out 1).trans rfl⟩ (fun hHeld => ?_)
                clear hK K
                refine norm_ (a' := ?_) ?_ ?_
                rotate_left
                ·show Act.put _ (some 126) _ = _
                 simp only [Act.put, sT, s0, s1, i64_w, i32_w]
                 rfl
                refine one_ (i := 12) (N := some 128) #[oI, oI, oI, oI, oI, oI, oI, oI, oI, oI, oI, oI, oI, oO, oO] rfl rfl (one_of HT_.out (by kernel_rfl)) (by decide) (fun K hK => ?_)
                refine goes_ Try.func16 (by kernel_rfl) rfl #[.agg #[.slice Ao129 t389.length co129, .slice Ao130 t392.length co130], .agg #[.slice Ao86 t367.length co86, .slice Ao90 t370.length co90]] (by rfl) rfl rfl (by (try simp only [List.map_toArray, List.map_cons, List.map_nil]); first | done | rfl | (simp only [List.length_drop, List.length_take]; rfl)) ?_
                with_reducible refine (portreeveref03_Same.calls kj80 _ _ t389 _ _ t392 _ _ t367 _ _ t370 t395 _ ?side1 ?side2 ?side3 ?side4 ?side5 ?side6 ?side7 ?side8 A122.out).mono ?_
                (case side1 => repeat (first | exact (Kd.N_reads' HO391.out).2.2 | (with_reducible refine Kd.C_alloc ?_ _) | (with_reducible refine Kd.C_drewN ?_ _) | (with_reducible refine Kd.C_drew ?_)))
                (case side2 => exact (Kd.N_reads' HO391.out).2.1)
                (case side3 => repeat (first | exact (Kd.N_reads' HO394.out).2.2 | (with_reducible refine Kd.C_alloc ?_ _) | (with_reducible refine Kd.C_drewN ?_ _) | (with_reducible refine Kd.C_drew ?_)))
                (case side4 => exact (Kd.N_reads' HO394.out).2.1)
                (case side5 => repeat (first | exact (Kd.N_reads' HO_374000.out).2.2 | (with_reducible refine Kd.C_alloc ?_ _) | (with_reducible refine Kd.C_drewN ?_ _) | (with_reducible refine Kd.C_drew ?_)))
                (case side6 => exact (Kd.N_reads' HO_374000.out).2.1)
                (case side7 => repeat (first | exact (Kd.N_reads' HO_374001.out).2.2 | (with_reducible refine Kd.C_alloc ?_ _) | (with_reducible refine Kd.C_drewN ?_ _) | (with_reducible refine Kd.C_drew ?_)))
                (case side8 => exact (Kd.N_reads' HO_374001.out).2.1)
                rintro e w131 ⟨rfl, hb⟩
                refine ⟨_, rfl, ?_⟩
                have n0_ := Aside0.mk (Kd.V_below (zV HO_345000.out) hb)
                have n1_ := Aside0.mk (Kd.V_below (zV HO_345001.out) hb)
                have n2_ := Aside0.mk (Kd.N_below (zN HO_355000.out) hb)
                have n3_ := Aside0.mk (Kd.N_below (zN HO_355001.out) hb)
                have n4_ := Aside0.mk (Kd.N_below (zN HO_374000.out) hb)
                have n5_ := Aside0.mk (Kd.N_below (zN HO_374001.out) hb)
                have n6_ := Aside0.mk (Kd.N_below (zN HO384.out) hb)
                have n7_ := Aside0.mk (Kd.N_below (zN HO387.out) hb)
                have n8_ := Aside0.mk (Kd.N_below (zN HO391.out) hb)
                have n9_ := Aside0.mk (Kd.N_below (zN HO394.out) hb)
                have n10_ := Aside0.mk (blk_below (g := gb344) (o := .cells #[.slice (some ad359) l0_0.length c0_0, .slice A0_1 l0_1.length c0_1] 25 (0, 0)) (zB BK344.out) hb)
                have n11_ := Aside0.mk (blk_below (g := gb354) (o := .cells #[.slice Ao42 t348.length co42, .slice Ao45 t351.length co45] 25 (0, 0)) (zB BK354.out) hb)
                have n12_ := Aside0.mk (blk_below (g := gb373) (o := .cells #[.slice Ao86 t367.length co86, .slice Ao90 t370.length co90] 25 (0, 0)) (zB BK373.out) hb)
                have n13_ := Aside0.mk (below_step (by repeat (first | (with_reducible first | exact HB.out | apply pA | apply pN | apply pD | refine pS ?_ GE344.out | refine pS ?_ GE354.out | refine pS ?_ GE373.out) | exact HB.out)) hb)
                clear HO_345000
                clear HO_345001
                clear HO_355000
                clear HO_355001
                clear HO_374000
                clear HO_374001
                clear HO384
                clear HO387
                clear HO391
                clear HO394
                clear BK344
                clear BK354
                clear BK373
                clear HB
                have HO_345000 := n0_
                have HO_345001 := n1_
                have HO_355000 := n2_
                have HO_355001 := n3_
                have HO_374000 := n4_
                have HO_374001 := n5_
                have HO384 := n6_
                have HO387 := n7_
                have HO391 := n8_
                have HO394 := n9_
                have BK344 := n10_
                have BK354 := n11_
                have BK373 := n12_
                have HB := n13_
                clear n0_ n1_ n2_ n3_ n4_ n5_ n6_ n7_ n8_ n9_ n10_ n11_ n12_ n13_
                (try clear hb)
                (try clear hb2)
                (try clear hk)
                (try clear hi)
                refine hK.out _ _ ⟨(blk_cell BK373.out 0).trans rfl, (blk_cell BK373.out 1).trans rfl⟩ (fun hHeld => ?_)
                clear hK K
                refine norm_ (a' := ?_) ?_ ?_
                rotate_left
                ·show Act.put _ (some 128) _ = _
                 simp only [Act.put, sT, s0, s1, i64_w, i32_w]
                 rfl
                refine pure_ (i := 13) (N := some 129) (v := ?_) (a' := ?_) #[oI, oI, oI, oI, oI, oI, oI, oI, oI, oI, oI, oI, oI, oI, oO] rfl rfl (any_of HT_.out (by kernel_rfl)) (fun _ _ _ h => h) (Or.inl ⟨by rfl, ?_⟩) ?_ ?_
                rotate_left
                ·intro w'
                 go_simp
                 with_reducible rfl
                rotate_left
                ·simp only [Act.put, sT, s0, s1, i64_w, i32_w]
                 rfl
                refine pure_ (i := 14) (N := some 6) (v := ?_) (a' := ?_) #[oI, oI, oI, oI, oI, oI, oI, oI, oI, oI, oI, oI, oI, oI, oI] rfl rfl (any_of HT_.out (by kernel_rfl)) (fun _ _ _ h => h) (Or.inl ⟨by rfl, ?_⟩) ?_ ?_
                rotate_left
                ·intro w'
                 go_simp
                 with_reducible rfl
                rotate_left
                ·simp only [Act.put, sT, s0, s1, i64_w, i32_w]
                 rfl
                refine done_ (done_of HT_.out (by kernel_rfl)) ?_
                try go_wp2
                go_ret
                exact ⟨by first | rfl | (simp [errW_none, errW_some] <;> rfl) | (simp [*, errW_none, errW_some] <;> rfl), by repeat (first | (with_reducible first | exact HB.out | apply pA | apply pN | apply pD | refine pS ?_ GE344.out | refine pS ?_ GE354.out | refine pS ?_ GE373.out) | exact HB.out)⟩
               ·replace c120 := Bool.eq_false_iff.mpr c120
                subst c120
                have H1 : (some false) = some r := by rw [if_neg (show ¬ (false = true) by decide)] at H; exact H
                clear H
                have H := H1
                clear H1
                exact absurd ((Option.some.inj H).trans hlaw_.out) (by decide)
              ·replace c117 := Bool.eq_false_iff.mpr c117
               subst c117
               have H1 : (some false) = some r := by rw [if_neg (show ¬ (false = true) by decide)] at H; exact H
               clear H
               have H := H1
               clear H1
               exact absurd ((Option.some.inj H).trans hlaw_.out) (by decide)
       ·rw [if_neg c38] at H
        exact absurd H (by simp)
      ·rw [if_neg c37] at H
       exact absurd H (by simp)
     ·rw [if_neg c36] at H
      exact absurd H (by simp)
    ·rw [if_neg c35] at H
     exact absurd H (by simp)

end Go.Proofs.Ytnhfhepakimncaa.Q

-- written by this session's own program (wip/tools/myprint.py), over the kit's print
import Derived.Test.YtlimlbhhbjaljaaQx0
import Derived.Test.YtlimlbhhbjaljaaQx3
import Derived.Test.YtlimlbhhbjaljaaQx4
import Derived.Test.YtlimlbhhbjaljaaQx12
namespace Go.Proofs.Ytlimlbhhbjaljaa.Q
open Go.RowKit Go.Proofs.YtlimlbhhbjaljaaW.PrintWords Go.Proofs.YtlimlbhhbjaljaaW.PrintLast Go.Proofs.YtlimlbhhbjaljaaW.PrintMore
open Go.Proofs.YtlimlbhhbjaljaaV
attribute [local go_sem] max2_int min2_int max_two min_two max_three min_three max_four min_four   -- for this text's walks alone
set_option linter.unusedVariables false
set_option linter.unusedSimpArgs false

/-! ### portreevelaw17_MeterMay: function 8 -/
def portreevelaw17_MeterMay.j0 : Nat → Int → Int → Bool → Bool → Int → Int → Int → Int → Int → Int → Int → ByteArray → Int → Int → Int → Int → Int → Int → Int → Int → ByteArray → Int → Int → Int → Int → Option (Bool)
  | 0, _, _, _, _, _, _, _, _, _, _, _, _, _, _, _, _, _, _, _, _, _, _, _, _, _ => none
  | k + 1, x1, x2, x7, x10, x429000, x429001, x429002, x441000, x441001, x441002, x441003, x441004, x441005, x441006, x441007, x441008, x451000, x451001, x451002, x451003, x451004, x451005, x451006, x451007, x451008 => if x7 = true then ((portreeveref04_May.f k x441000 x441001 x441002 x441003 x441004 x441005 x441006 x441007 x441008).bind fun t451 => (if (t451 == x10) = true then ((portreeveref04_May.f k x451000 x451001 x451002 x451003 x451004 x451005 x451006 x451007 x451008).bind fun t452 => (if x10 = true then (if x2 ≥ 0 then (if (t452 == (decide (x2 ≤ 255))) = true then (if x441005 = x429000 then (if x441006 = x429001 then (if x451005 = x429000 then (if x451006 = x429001 then (if x441001 = x1 then (some (x451001 == x1)) else (some false)) else (some false)) else (some false)) else (some false)) else (some false)) else (some false)) else (if (t452 == false) = true then (if x441005 = x429000 then (if x441006 = x429001 then (if x451005 = x429000 then (if x451006 = x429001 then (if x441001 = x1 then (some (x451001 == x1)) else (some false)) else (some false)) else (some false)) else (some false)) else (some false)) else (some false))) else (if (t452 == false) = true then (if x441005 = x429000 then (if x441006 = x429001 then (if x451005 = x429000 then (if x451006 = x429001 then (if x441001 = x1 then (some (x451001 == x1)) else (some false)) else (some false)) else (some false)) else (some false)) else (some false)) else (some false)))) else (some false))) else (some false)
def portreevelaw17_MeterMay.f (k : Nat) (a0_0 : Int) (a0_1 : Int) (a0_2 : Int) (a1 : Int) (a2 : Int) : Option (Bool) := (portreevelaw17_shown.f k).bind fun t429 => ((portreeveref17_Right.f a0_0 a0_1 a0_2).bind fun t430 => (if t430 = true then ((meter_Note.f a0_0 a0_1 a0_2 a1).bind fun bt431 => ((meter_Stop.f a0_0 a0_1 a0_2 a1 a2).bind fun bt441 => (if a1 ≥ 0 then (portreevelaw17_MeterMay.j0 k a1 a2 t429 (decide (a1 ≤ 1000000000)) a0_0 a0_1 a0_2 bt431.1 bt431.2.1 bt431.2.2.1 bt431.2.2.2.1 bt431.2.2.2.2.1 bt431.2.2.2.2.2.1 bt431.2.2.2.2.2.2.1 bt431.2.2.2.2.2.2.2.1 bt431.2.2.2.2.2.2.2.2 bt441.1 bt441.2.1 bt441.2.2.1 bt441.2.2.2.1 bt441.2.2.2.2.1 bt441.2.2.2.2.2.1 bt441.2.2.2.2.2.2.1 bt441.2.2.2.2.2.2.2.1 bt441.2.2.2.2.2.2.2.2) else (portreevelaw17_MeterMay.j0 k a1 a2 t429 false a0_0 a0_1 a0_2 bt431.1 bt431.2.1 bt431.2.2.1 bt431.2.2.2.1 bt431.2.2.2.2.1 bt431.2.2.2.2.2.1 bt431.2.2.2.2.2.2.1 bt431.2.2.2.2.2.2.2.1 bt431.2.2.2.2.2.2.2.2 bt441.1 bt441.2.1 bt441.2.2.1 bt441.2.2.2.1 bt441.2.2.2.2.1 bt441.2.2.2.2.2.1 bt441.2.2.2.2.2.2.1 bt441.2.2.2.2.2.2.2.1 bt441.2.2.2.2.2.2.2.2)))) else (some t429)))
theorem portreevelaw17_MeterMay.mono_l : ∀ k, (∀ y0 y1 y2 y3 y4 y5 y6 y7 y8 y9 y10 y11 y12 y13 y14 y15 y16 y17 y18 y19 y20 y21 y22 y23 y24, LeO (portreevelaw17_MeterMay.j0 k y0 y1 y2 y3 y4 y5 y6 y7 y8 y9 y10 y11 y12 y13 y14 y15 y16 y17 y18 y19 y20 y21 y22 y23 y24) (portreevelaw17_MeterMay.j0 (k + 1) y0 y1 y2 y3 y4 y5 y6 y7 y8 y9 y10 y11 y12 y13 y14 y15 y16 y17 y18 y19 y20 y21 y22 y23 y24))
  | 0 => fun _ _ _ _ _ _ _ _ _ _ _ _ _ _ _ _ _ _ _ _ _ _ _ _ _ r h => by simp [portreevelaw17_MeterMay.j0] at h
  | k + 1 => by
    have ih0 := portreevelaw17_MeterMay.mono_l k
    · intro y0 y1 y2 y3 y4 y5 y6 y7 y8 y9 y10 y11 y12 y13 y14 y15 y16 y17 y18 y19 y20 y21 y22 y23 y24
      unfold portreevelaw17_MeterMay.j0
      repeat' first
      | (with_reducible exact ih0 _ _ _ _ _ _ _ _ _ _ _ _ _ _ _ _ _ _ _ _ _ _ _ _ _)
      | (with_reducible exact portreevelaw17_shown.mono _)
      | (with_reducible exact portreeveref04_May.mono _ _ _ _ _ _ _ _ _ _)
      | (with_reducible exact LeO.refl _)
      | (with_reducible exact LeO.none _)
      | (with_reducible refine LeO.ite ?_ ?_)
      | (with_reducible refine LeO.bind ?_ (fun _ => ?_))
      | exact ih0 _ _ _ _ _ _ _ _ _ _ _ _ _ _ _ _ _ _ _ _ _ _ _ _ _
      | exact portreevelaw17_shown.mono _
      | exact portreeveref04_May.mono _ _ _ _ _ _ _ _ _ _
      | exact LeO.none _
      | refine LeO.ite ?_ ?_
      | refine LeO.bind ?_ (fun _ => ?_)
theorem portreevelaw17_MeterMay.mono : ∀ a0 a1 a2 a3 a4 k, LeO (portreevelaw17_MeterMay.f k a0 a1 a2 a3 a4) (portreevelaw17_MeterMay.f (k + 1) a0 a1 a2 a3 a4) := by
  intro a0 a1 a2 a3 a4 k
  have ih0 := portreevelaw17_MeterMay.mono_l k
  unfold portreevelaw17_MeterMay.f
  repeat' first
      | (with_reducible exact ih0 _ _ _ _ _ _ _ _ _ _ _ _ _ _ _ _ _ _ _ _ _ _ _ _ _)
      | (with_reducible exact portreevelaw17_shown.mono _)
      | (with_reducible exact portreeveref04_May.mono _ _ _ _ _ _ _ _ _ _)
      | (with_reducible exact LeO.refl _)
      | (with_reducible exact LeO.none _)
      | (with_reducible refine LeO.ite ?_ ?_)
      | (with_reducible refine LeO.bind ?_ (fun _ => ?_))
      | exact ih0 _ _ _ _ _ _ _ _ _ _ _ _ _ _ _ _ _ _ _ _ _ _ _ _ _
      | exact portreevelaw17_shown.mono _
      | exact portreeveref04_May.mono _ _ _ _ _ _ _ _ _ _
      | exact LeO.none _
      | refine LeO.ite ?_ ?_
      | refine LeO.bind ?_ (fun _ => ?_)
set_option maxHeartbeats 8000000 in
set_option maxRecDepth 100000 in
theorem portreevelaw17_MeterMay.calls (k : Nat) (a0_0 : Int) (a0_1 : Int) (a0_2 : Int) (a1 : Int) (a2 : Int) (r : Bool) (w : World) (hlaw_ : Aside0 (r = true)) (h : portreevelaw17_MeterMay.f k a0_0 a0_1 a0_2 a1 a2 = some r) :
    Calls Try.prog 8 #[.agg #[.int .u64 a0_0, .int .u64 a0_1, .int .i64 a0_2], .int .i64 a1, .int .i64 a2] w fun e w' => e = .returned (.bool r) ∧ Below w.heap.size w w' := by
  have hu24 := Try.underlying24
  have hu35 := Try.underlying35
  have HB := Aside0.mk (Below.refl w.heap.size w)
  have H : ((portreevelaw17_shown.f k).bind fun t429 => ((portreeveref17_Right.f a0_0 a0_1 a0_2).bind fun t430 => (if t430 = true then ((meter_Note.f a0_0 a0_1 a0_2 a1).bind fun bt431 => ((meter_Stop.f a0_0 a0_1 a0_2 a1 a2).bind fun bt441 => (if a1 ≥ 0 then (portreevelaw17_MeterMay.j0 k a1 a2 t429 (decide (a1 ≤ 1000000000)) a0_0 a0_1 a0_2 bt431.1 bt431.2.1 bt431.2.2.1 bt431.2.2.2.1 bt431.2.2.2.2.1 bt431.2.2.2.2.2.1 bt431.2.2.2.2.2.2.1 bt431.2.2.2.2.2.2.2.1 bt431.2.2.2.2.2.2.2.2 bt441.1 bt441.2.1 bt441.2.2.1 bt441.2.2.2.1 bt441.2.2.2.2.1 bt441.2.2.2.2.2.1 bt441.2.2.2.2.2.2.1 bt441.2.2.2.2.2.2.2.1 bt441.2.2.2.2.2.2.2.2) else (portreevelaw17_MeterMay.j0 k a1 a2 t429 false a0_0 a0_1 a0_2 bt431.1 bt431.2.1 bt431.2.2.1 bt431.2.2.2.1 bt431.2.2.2.2.1 bt431.2.2.2.2.2.1 bt431.2.2.2.2.2.2.1 bt431.2.2.2.2.2.2.2.1 bt431.2.2.2.2.2.2.2.2 bt441.1 bt441.2.1 bt441.2.2.1 bt441.2.2.2.1 bt441.2.2.2.2.1 bt441.2.2.2.2.2.1 bt441.2.2.2.2.2.2.1 bt441.2.2.2.2.2.2.2.1 bt441.2.2.2.2.2.2.2.2)))) else (some t429)))) = some r := h
  clear h
  replace H := Option.bind_eq_some_iff.mp H
  obtain ⟨t429, A40, H⟩ := H
  replace H : ((portreeveref17_Right.f a0_0 a0_1 a0_2).bind fun t430 => (if t430 = true then ((meter_Note.f a0_0 a0_1 a0_2 a1).bind fun bt431 => ((meter_Stop.f a0_0 a0_1 a0_2 a1 a2).bind fun bt441 => (if a1 ≥ 0 then (portreevelaw17_MeterMay.j0 k a1 a2 t429 (decide (a1 ≤ 1000000000)) a0_0 a0_1 a0_2 bt431.1 bt431.2.1 bt431.2.2.1 bt431.2.2.2.1 bt431.2.2.2.2.1 bt431.2.2.2.2.2.1 bt431.2.2.2.2.2.2.1 bt431.2.2.2.2.2.2.2.1 bt431.2.2.2.2.2.2.2.2 bt441.1 bt441.2.1 bt441.2.2.1 bt441.2.2.2.1 bt441.2.2.2.2.1 bt441.2.2.2.2.2.1 bt441.2.2.2.2.2.2.1 bt441.2.2.2.2.2.2.2.1 bt441.2.2.2.2.2.2.2.2) else (portreevelaw17_MeterMay.j0 k a1 a2 t429 false a0_0 a0_1 a0_2 bt431.1 bt431.2.1 bt431.2.2.1 bt431.2.2.2.1 bt431.2.2.2.2.1 bt431.2.2.2.2.2.1 bt431.2.2.2.2.2.2.1 bt431.2.2.2.2.2.2.2.1 bt431.2.2.2.2.2.2.2.2 bt441.1 bt441.2.1 bt441.2.2.1 bt441.2.2.2.1 bt441.2.2.2.2.1 bt441.2.2.2.2.2.1 bt441.2.2.2.2.2.2.1 bt441.2.2.2.2.2.2.2.1 bt441.2.2.2.2.2.2.2.2)))) else (some t429))) = some r := H
  have A4 := Aside0.mk A40
  clear A40
  replace H := Option.bind_eq_some_iff.mp H
  obtain ⟨t430, A50, H⟩ := H
  replace H : (if t430 = true then ((meter_Note.f a0_0 a0_1 a0_2 a1).bind fun bt431 => ((meter_Stop.f a0_0 a0_1 a0_2 a1 a2).bind fun bt441 => (if a1 ≥ 0 then (portreevelaw17_MeterMay.j0 k a1 a2 t429 (decide (a1 ≤ 1000000000)) a0_0 a0_1 a0_2 bt431.1 bt431.2.1 bt431.2.2.1 bt431.2.2.2.1 bt431.2.2.2.2.1 bt431.2.2.2.2.2.1 bt431.2.2.2.2.2.2.1 bt431.2.2.2.2.2.2.2.1 bt431.2.2.2.2.2.2.2.2 bt441.1 bt441.2.1 bt441.2.2.1 bt441.2.2.2.1 bt441.2.2.2.2.1 bt441.2.2.2.2.2.1 bt441.2.2.2.2.2.2.1 bt441.2.2.2.2.2.2.2.1 bt441.2.2.2.2.2.2.2.2) else (portreevelaw17_MeterMay.j0 k a1 a2 t429 false a0_0 a0_1 a0_2 bt431.1 bt431.2.1 bt431.2.2.1 bt431.2.2.2.1 bt431.2.2.2.2.1 bt431.2.2.2.2.2.1 bt431.2.2.2.2.2.2.1 bt431.2.2.2.2.2.2.2.1 bt431.2.2.2.2.2.2.2.2 bt441.1 bt441.2.1 bt441.2.2.1 bt441.2.2.2.1 bt441.2.2.2.2.1 bt441.2.2.2.2.2.1 bt441.2.2.2.2.2.2.1 bt441.2.2.2.2.2.2.2.1 bt441.2.2.2.2.2.2.2.2)))) else (some t429)) = some r := H
  have A5 := Aside0.mk A50
  clear A50
  by_cases c6 : t430 = true
  · subst c6
    have H1 : ((meter_Note.f a0_0 a0_1 a0_2 a1).bind fun bt431 => ((meter_Stop.f a0_0 a0_1 a0_2 a1 a2).bind fun bt441 => (if a1 ≥ 0 then (portreevelaw17_MeterMay.j0 k a1 a2 t429 (decide (a1 ≤ 1000000000)) a0_0 a0_1 a0_2 bt431.1 bt431.2.1 bt431.2.2.1 bt431.2.2.2.1 bt431.2.2.2.2.1 bt431.2.2.2.2.2.1 bt431.2.2.2.2.2.2.1 bt431.2.2.2.2.2.2.2.1 bt431.2.2.2.2.2.2.2.2 bt441.1 bt441.2.1 bt441.2.2.1 bt441.2.2.2.1 bt441.2.2.2.2.1 bt441.2.2.2.2.2.1 bt441.2.2.2.2.2.2.1 bt441.2.2.2.2.2.2.2.1 bt441.2.2.2.2.2.2.2.2) else (portreevelaw17_MeterMay.j0 k a1 a2 t429 false a0_0 a0_1 a0_2 bt431.1 bt431.2.1 bt431.2.2.1 bt431.2.2.2.1 bt431.2.2.2.2.1 bt431.2.2.2.2.2.1 bt431.2.2.2.2.2.2.1 bt431.2.2.2.2.2.2.2.1 bt431.2.2.2.2.2.2.2.2 bt441.1 bt441.2.1 bt441.2.2.1 bt441.2.2.2.1 bt441.2.2.2.2.1 bt441.2.2.2.2.2.1 bt441.2.2.2.2.2.2.1 bt441.2.2.2.2.2.2.2.1 bt441.2.2.2.2.2.2.2.2)))) = some r := by rw [if_pos rfl] at H; exact H
    clear H
    have H := H1
    clear H1
    replace H := Option.bind_eq_some_iff.mp H
    obtain ⟨⟨t431, t432, t433, t434, t435, t436, t437, t438, t439⟩, A70, H⟩ := H
    replace H : ((meter_Stop.f a0_0 a0_1 a0_2 a1 a2).bind fun bt441 => (if a1 ≥ 0 then (portreevelaw17_MeterMay.j0 k a1 a2 t429 (decide (a1 ≤ 1000000000)) a0_0 a0_1 a0_2 t431 t432 t433 t434 t435 t436 t437 t438 t439 bt441.1 bt441.2.1 bt441.2.2.1 bt441.2.2.2.1 bt441.2.2.2.2.1 bt441.2.2.2.2.2.1 bt441.2.2.2.2.2.2.1 bt441.2.2.2.2.2.2.2.1 bt441.2.2.2.2.2.2.2.2) else (portreevelaw17_MeterMay.j0 k a1 a2 t429 false a0_0 a0_1 a0_2 t431 t432 t433 t434 t435 t436 t437 t438 t439 bt441.1 bt441.2.1 bt441.2.2.1 bt441.2.2.2.1 bt441.2.2.2.2.1 bt441.2.2.2.2.2.1 bt441.2.2.2.2.2.2.1 bt441.2.2.2.2.2.2.2.1 bt441.2.2.2.2.2.2.2.2))) = some r := H
    have A7 := Aside0.mk A70
    clear A70
    replace H := Option.bind_eq_some_iff.mp H
    obtain ⟨⟨t441, t442, t443, t444, t445, t446, t447, t448, t449⟩, A80, H⟩ := H
    replace H : (if a1 ≥ 0 then (portreevelaw17_MeterMay.j0 k a1 a2 t429 (decide (a1 ≤ 1000000000)) a0_0 a0_1 a0_2 t431 t432 t433 t434 t435 t436 t437 t438 t439 t441 t442 t443 t444 t445 t446 t447 t448 t449) else (portreevelaw17_MeterMay.j0 k a1 a2 t429 false a0_0 a0_1 a0_2 t431 t432 t433 t434 t435 t436 t437 t438 t439 t441 t442 t443 t444 t445 t446 t447 t448 t449)) = some r := H
    have A8 := Aside0.mk A80
    clear A80
    have HC9 := Aside0.mk H
    clear H
    go_enter Try.func8, Try.ntmps8
    go_upto_region 6 with (first | ((with_reducible refine gate_dst (N := 3) rfl ?_); refine box_event ?hg (N := 3) ?hd (cs := #[.int .u64 a0_0, .int .u64 a0_1, .int .i64 a0_2]) (t := 24) ?hr ?_; (case hd => rfl); (case hg => rfl); (case hr => first | (go_simp; done) | (go_simp; rfl)); intro gb428 hg w10 hbox hb; have n0_ := Aside0.mk (below_step (by repeat (first | (with_reducible first | exact HB.out | apply pA | apply pN | apply pD) | exact HB.out)) hb); have n1_ := Aside0.mk (hbox); have n2_ := Aside0.mk ((by rw [hg]; exact (below_size (by repeat (first | (with_reducible first | exact HB.out | apply pA | apply pN | apply pD) | exact HB.out))) : w.heap.size ≤ gb428)); have n3_ := Aside0.mk ((by rw [hg]; exact (below_size (by repeat (first | (with_reducible first | exact HB.out | apply pA | apply pN | apply pD) | exact HB.out))) : w.heap.size ≤ gb428)); clear HB; have HB := n0_; have BK428 := n1_; have GW428 := n2_; have GE428 := n3_; clear n0_ n1_ n2_ n3_; clear hb hbox hg) | ((with_reducible refine gate_callee (f := 9) rfl ?_); refine goesL_ (some 11) rfl rfl Try.func9 (by kernel_rfl) rfl #[] rfl (by (try simp only [List.map_toArray, List.map_cons, List.map_nil]); first | done | rfl | (simp only [List.length_drop, List.length_take]; rfl)) ?_; (with_reducible refine (portreevelaw17_shown.calls k  t429 _ A4.out).mono ?_); rintro e w11 ⟨rfl, hb⟩; refine ⟨_, rfl, ?_⟩; have n0_ := Aside0.mk (blk_below (g := gb428) (o := .cells #[.int .u64 a0_0, .int .u64 a0_1, .int .i64 a0_2] 24 (0, 0)) (by (with_reducible repeat (first | refine qN ?_ _ | refine qD ?_ | refine qA ?_ _)); exact BK428.out) hb); have n1_ := Aside0.mk (below_step (by repeat (first | (with_reducible first | exact HB.out | apply pA | apply pN | apply pD | refine pS ?_ GE428.out) | exact HB.out)) hb); clear BK428; clear HB; have BK428 := n0_; have HB := n1_; clear n0_ n1_; (try clear hb); (try clear hb2); (try clear hk); (try clear hi); have hcz12_0 : w11.cell? ⟨gb428, 0, none⟩ = some (.int .u64 a0_0) := (blk_cell BK428.out 0).trans rfl; have hcz12_1 : w11.cell? ⟨gb428, 1, none⟩ = some (.int .u64 a0_1) := (blk_cell BK428.out 1).trans rfl; have hcz12_2 : w11.cell? ⟨gb428, 2, none⟩ = some (.int .i64 a0_2) := (blk_cell BK428.out 2).trans rfl; have hfz12_0 := blk_frozen BK428.out 0; have hfz12_1 := blk_frozen BK428.out 1; have hfz12_2 := blk_frozen BK428.out 2) | ((with_reducible refine gate_callee (f := 10) rfl ?_); refine goesL_ (some 13) rfl rfl Try.func10 (by kernel_rfl) rfl #[.agg #[.int .u64 a0_0, .int .u64 a0_1, .int .i64 a0_2]] rfl (by (try simp only [List.map_toArray, List.map_cons, List.map_nil]); first | done | rfl | (simp only [List.length_drop, List.length_take]; rfl)) ?_; (with_reducible refine (portreeveref17_Right.calls a0_0 a0_1 a0_2 true _ A5.out).mono ?_); rintro e w13 ⟨rfl, hb⟩; refine ⟨_, rfl, ?_⟩; have n0_ := Aside0.mk (blk_below (g := gb428) (o := .cells #[.int .u64 a0_0, .int .u64 a0_1, .int .i64 a0_2] 24 (0, 0)) (by (with_reducible repeat (first | refine qN ?_ _ | refine qD ?_ | refine qA ?_ _)); exact BK428.out) hb); have n1_ := Aside0.mk (below_step (by repeat (first | (with_reducible first | exact HB.out | apply pA | apply pN | apply pD | refine pS ?_ GE428.out) | exact HB.out)) hb); clear BK428; clear HB; have BK428 := n0_; have HB := n1_; clear n0_ n1_; (try clear hb); (try clear hb2); (try clear hk); (try clear hi); have hcz14_0 : w13.cell? ⟨gb428, 0, none⟩ = some (.int .u64 a0_0) := (blk_cell BK428.out 0).trans rfl; have hcz14_1 : w13.cell? ⟨gb428, 1, none⟩ = some (.int .u64 a0_1) := (blk_cell BK428.out 1).trans rfl; have hcz14_2 : w13.cell? ⟨gb428, 2, none⟩ = some (.int .i64 a0_2) := (blk_cell BK428.out 2).trans rfl; have hfz14_0 := blk_frozen BK428.out 0; have hfz14_1 := blk_frozen BK428.out 1; have hfz14_2 := blk_frozen BK428.out 2) | ((with_reducible refine gate_callee (f := 18) rfl ?_); refine goesL_ (some 18) rfl rfl Try.func18 (by kernel_rfl) rfl #[.agg #[.int .u64 a0_0, .int .u64 a0_1, .int .i64 a0_2], .int .i64 a1] rfl (by (try simp only [List.map_toArray, List.map_cons, List.map_nil]); first | done | rfl | (simp only [List.length_drop, List.length_take]; rfl)) ?_; (with_reducible refine (meter_Note.calls a0_0 a0_1 a0_2 a1 t431 t432 t433 t434 t435 t436 t437 t438 t439 _ A7.out).mono ?_); rintro e w15 ⟨rfl, hb⟩; refine ⟨_, rfl, ?_⟩; have n0_ := Aside0.mk (blk_below (g := gb428) (o := .cells #[.int .u64 a0_0, .int .u64 a0_1, .int .i64 a0_2] 24 (0, 0)) (by (with_reducible repeat (first | refine qN ?_ _ | refine qD ?_ | refine qA ?_ _)); exact BK428.out) hb); have n1_ := Aside0.mk (below_step (by repeat (first | (with_reducible first | exact HB.out | apply pA | apply pN | apply pD | refine pS ?_ GE428.out) | exact HB.out)) hb); clear BK428; clear HB; have BK428 := n0_; have HB := n1_; clear n0_ n1_; (try clear hb); (try clear hb2); (try clear hk); (try clear hi)) | ((with_reducible refine gate_dst (N := 8) rfl ?_); refine box_event ?hg (N := 8) ?hd (cs := #[.int .i64 0, .int .i64 0, .int .i64 0, .int .u32 0, .string (⟨#[]⟩ : ByteArray), .int .u64 0, .int .u64 0, .int .i64 0, .int .i64 0]) (t := 35) ?hr ?_; (case hd => rfl); (case hg => rfl); (case hr => first | (go_simp; done) | (go_simp; rfl)); intro gb440 hg w16 hbox hb; have n0_ := Aside0.mk (blk_below (g := gb428) (o := .cells #[.int .u64 a0_0, .int .u64 a0_1, .int .i64 a0_2] 24 (0, 0)) (by (with_reducible repeat (first | refine qN ?_ _ | refine qD ?_ | refine qA ?_ _)); exact BK428.out) hb); have n1_ := Aside0.mk (below_step (by repeat (first | (with_reducible first | exact HB.out | apply pA | apply pN | apply pD | refine pS ?_ GE428.out) | exact HB.out)) hb); have n2_ := Aside0.mk (hbox); have n3_ := Aside0.mk ((by rw [hg]; exact (below_size (by repeat (first | (with_reducible first | exact HB.out | apply pA | apply pN | apply pD | refine pS ?_ GE428.out) | exact HB.out))) : w.heap.size ≤ gb440)); have n4_ := Aside0.mk ((by rw [hg]; exact (below_size (by repeat (first | (with_reducible first | exact HB.out | apply pA | apply pN | apply pD | refine pS ?_ GE428.out) | exact HB.out))) : w.heap.size ≤ gb440)); have n5_ := Aside0.mk ((by rw [hg]; exact Nat.ne_of_lt (blk_lt (g := gb428) (o := .cells #[.int .u64 a0_0, .int .u64 a0_1, .int .i64 a0_2] 24 (0, 0)) (by (with_reducible repeat (first | refine qN ?_ _ | refine qD ?_ | refine qA ?_ _)); exact BK428.out)) : gb428 ≠ gb440)); have n6_ := Aside0.mk ((by rw [hg]; exact Nat.ne_of_gt (blk_lt (g := gb428) (o := .cells #[.int .u64 a0_0, .int .u64 a0_1, .int .i64 a0_2] 24 (0, 0)) (by (with_reducible repeat (first | refine qN ?_ _ | refine qD ?_ | refine qA ?_ _)); exact BK428.out)) : gb440 ≠ gb428)); clear BK428; clear HB; have BK428 := n0_; have HB := n1_; have BK440 := n2_; have GW440 := n3_; have GE440 := n4_; have NB428_440 := n5_; have NB440_428 := n6_; clear n0_ n1_ n2_ n3_ n4_ n5_ n6_; clear hb hbox hg; have hnb17 := NB440_428.out; have hnc17 := NB428_440.out; have hcz18_0 : w16.cell? ⟨gb440, 0, none⟩ = some (.int .i64 0) := (blk_cell BK440.out 0).trans rfl; have hcz18_1 : w16.cell? ⟨gb440, 1, none⟩ = some (.int .i64 0) := (blk_cell BK440.out 1).trans rfl; have hcz18_2 : w16.cell? ⟨gb440, 2, none⟩ = some (.int .i64 0) := (blk_cell BK440.out 2).trans rfl; have hcz18_3 : w16.cell? ⟨gb440, 3, none⟩ = some (.int .u32 0) := (blk_cell BK440.out 3).trans rfl; have hcz18_4 : w16.cell? ⟨gb440, 4, none⟩ = some (.string (⟨#[]⟩ : ByteArray)) := (blk_cell BK440.out 4).trans rfl; have hcz18_5 : w16.cell? ⟨gb440, 5, none⟩ = some (.int .u64 0) := (blk_cell BK440.out 5).trans rfl; have hcz18_6 : w16.cell? ⟨gb440, 6, none⟩ = some (.int .u64 0) := (blk_cell BK440.out 6).trans rfl; have hcz18_7 : w16.cell? ⟨gb440, 7, none⟩ = some (.int .i64 0) := (blk_cell BK440.out 7).trans rfl; have hcz18_8 : w16.cell? ⟨gb440, 8, none⟩ = some (.int .i64 0) := (blk_cell BK440.out 8).trans rfl; have hfz18_0 := blk_frozen BK440.out 0; have hfz18_1 := blk_frozen BK440.out 1; have hfz18_2 := blk_frozen BK440.out 2; have hfz18_3 := blk_frozen BK440.out 3; have hfz18_4 := blk_frozen BK440.out 4; have hfz18_5 := blk_frozen BK440.out 5; have hfz18_6 := blk_frozen BK440.out 6; have hfz18_7 := blk_frozen BK440.out 7; have hfz18_8 := blk_frozen BK440.out 8; have hcz19_0 : w16.cell? ⟨gb428, 0, none⟩ = some (.int .u64 a0_0) := (blk_cell BK428.out 0).trans rfl; have hcz19_1 : w16.cell? ⟨gb428, 1, none⟩ = some (.int .u64 a0_1) := (blk_cell BK428.out 1).trans rfl; have hcz19_2 : w16.cell? ⟨gb428, 2, none⟩ = some (.int .i64 a0_2) := (blk_cell BK428.out 2).trans rfl; have hfz19_0 := blk_frozen BK428.out 0; have hfz19_1 := blk_frozen BK428.out 1; have hfz19_2 := blk_frozen BK428.out 2) | ((with_reducible refine gate_callee (f := 20) rfl ?_); refine goesL_ (some 22) rfl rfl Try.func20 (by kernel_rfl) rfl #[.agg #[.int .u64 a0_0, .int .u64 a0_1, .int .i64 a0_2], .int .i64 a1, .int .i64 a2] rfl (by (try simp only [List.map_toArray, List.map_cons, List.map_nil]); first | done | rfl | (simp only [List.length_drop, List.length_take]; rfl)) ?_; (with_reducible refine (meter_Stop.calls a0_0 a0_1 a0_2 a1 a2 t441 t442 t443 t444 t445 t446 t447 t448 t449 _ A8.out).mono ?_); rintro e w20 ⟨rfl, hb⟩; refine ⟨_, rfl, ?_⟩; have n0_ := Aside0.mk (blk_below (g := gb428) (o := .cells #[.int .u64 a0_0, .int .u64 a0_1, .int .i64 a0_2] 24 (0, 0)) (by (with_reducible repeat (first | refine qN ?_ _ | refine qD ?_ | refine qA ?_ _)); refine blk_far ?_ NB428_440.out _; (with_reducible repeat (first | refine qN ?_ _ | refine qD ?_ | refine qA ?_ _)); refine blk_far ?_ NB428_440.out _; (with_reducible repeat (first | refine qN ?_ _ | refine qD ?_ | refine qA ?_ _)); refine blk_far ?_ NB428_440.out _; (with_reducible repeat (first | refine qN ?_ _ | refine qD ?_ | refine qA ?_ _)); refine blk_far ?_ NB428_440.out _; (with_reducible repeat (first | refine qN ?_ _ | refine qD ?_ | refine qA ?_ _)); refine blk_far ?_ NB428_440.out _; (with_reducible repeat (first | refine qN ?_ _ | refine qD ?_ | refine qA ?_ _)); refine blk_far ?_ NB428_440.out _; (with_reducible repeat (first | refine qN ?_ _ | refine qD ?_ | refine qA ?_ _)); refine blk_far ?_ NB428_440.out _; (with_reducible repeat (first | refine qN ?_ _ | refine qD ?_ | refine qA ?_ _)); refine blk_far ?_ NB428_440.out _; (with_reducible repeat (first | refine qN ?_ _ | refine qD ?_ | refine qA ?_ _)); refine blk_far ?_ NB428_440.out _; (with_reducible repeat (first | refine qN ?_ _ | refine qD ?_ | refine qA ?_ _)); exact BK428.out) hb); have n1_ := Aside0.mk (blk_below (g := gb440) (o := .cells #[.int .i64 t431, .int .i64 t432, .int .i64 t433, .int .u32 t434, .string t435, .int .u64 t436, .int .u64 t437, .int .i64 t438, .int .i64 t439] 35 (0, 0)) (by (with_reducible repeat (first | refine qN ?_ _ | refine qD ?_ | refine qA ?_ _)); refine blk_put (cs := #[.int .i64 t431, .int .i64 t432, .int .i64 t433, .int .u32 t434, .string t435, .int .u64 t436, .int .u64 t437, .int .i64 t438, .int .i64 0]) ?_ 8 _ rfl; (with_reducible repeat (first | refine qN ?_ _ | refine qD ?_ | refine qA ?_ _)); refine blk_put (cs := #[.int .i64 t431, .int .i64 t432, .int .i64 t433, .int .u32 t434, .string t435, .int .u64 t436, .int .u64 t437, .int .i64 0, .int .i64 0]) ?_ 7 _ rfl; (with_reducible repeat (first | refine qN ?_ _ | refine qD ?_ | refine qA ?_ _)); refine blk_put (cs := #[.int .i64 t431, .int .i64 t432, .int .i64 t433, .int .u32 t434, .string t435, .int .u64 t436, .int .u64 0, .int .i64 0, .int .i64 0]) ?_ 6 _ rfl; (with_reducible repeat (first | refine qN ?_ _ | refine qD ?_ | refine qA ?_ _)); refine blk_put (cs := #[.int .i64 t431, .int .i64 t432, .int .i64 t433, .int .u32 t434, .string t435, .int .u64 0, .int .u64 0, .int .i64 0, .int .i64 0]) ?_ 5 _ rfl; (with_reducible repeat (first | refine qN ?_ _ | refine qD ?_ | refine qA ?_ _)); refine blk_put (cs := #[.int .i64 t431, .int .i64 t432, .int .i64 t433, .int .u32 t434, .string (⟨#[]⟩ : ByteArray), .int .u64 0, .int .u64 0, .int .i64 0, .int .i64 0]) ?_ 4 _ rfl; (with_reducible repeat (first | refine qN ?_ _ | refine qD ?_ | refine qA ?_ _)); refine blk_put (cs := #[.int .i64 t431, .int .i64 t432, .int .i64 t433, .int .u32 0, .string (⟨#[]⟩ : ByteArray), .int .u64 0, .int .u64 0, .int .i64 0, .int .i64 0]) ?_ 3 _ rfl; (with_reducible repeat (first | refine qN ?_ _ | refine qD ?_ | refine qA ?_ _)); refine blk_put (cs := #[.int .i64 t431, .int .i64 t432, .int .i64 0, .int .u32 0, .string (⟨#[]⟩ : ByteArray), .int .u64 0, .int .u64 0, .int .i64 0, .int .i64 0]) ?_ 2 _ rfl; (with_reducible repeat (first | refine qN ?_ _ | refine qD ?_ | refine qA ?_ _)); refine blk_put (cs := #[.int .i64 t431, .int .i64 0, .int .i64 0, .int .u32 0, .string (⟨#[]⟩ : ByteArray), .int .u64 0, .int .u64 0, .int .i64 0, .int .i64 0]) ?_ 1 _ rfl; (with_reducible repeat (first | refine qN ?_ _ | refine qD ?_ | refine qA ?_ _)); refine blk_put (cs := #[.int .i64 0, .int .i64 0, .int .i64 0, .int .u32 0, .string (⟨#[]⟩ : ByteArray), .int .u64 0, .int .u64 0, .int .i64 0, .int .i64 0]) ?_ 0 _ rfl; (with_reducible repeat (first | refine qN ?_ _ | refine qD ?_ | refine qA ?_ _)); exact BK440.out) hb); have n2_ := Aside0.mk (below_step (by repeat (first | (with_reducible first | exact HB.out | apply pA | apply pN | apply pD | refine pS ?_ GE428.out | refine pS ?_ GE440.out) | exact HB.out)) hb); clear BK428; clear BK440; clear HB; have BK428 := n0_; have BK440 := n1_; have HB := n2_; clear n0_ n1_ n2_; (try clear hb); (try clear hb2); (try clear hk); (try clear hi)) | ((with_reducible refine gate_dst (N := 9) rfl ?_); refine box_event ?hg (N := 9) ?hd (cs := #[.int .i64 0, .int .i64 0, .int .i64 0, .int .u32 0, .string (⟨#[]⟩ : ByteArray), .int .u64 0, .int .u64 0, .int .i64 0, .int .i64 0]) (t := 35) ?hr ?_; (case hd => rfl); (case hg => rfl); (case hr => first | (go_simp; done) | (go_simp; rfl)); intro gb450 hg w21 hbox hb; have n0_ := Aside0.mk (blk_below (g := gb428) (o := .cells #[.int .u64 a0_0, .int .u64 a0_1, .int .i64 a0_2] 24 (0, 0)) (by (with_reducible repeat (first | refine qN ?_ _ | refine qD ?_ | refine qA ?_ _)); exact BK428.out) hb); have n1_ := Aside0.mk (blk_below (g := gb440) (o := .cells #[.int .i64 t431, .int .i64 t432, .int .i64 t433, .int .u32 t434, .string t435, .int .u64 t436, .int .u64 t437, .int .i64 t438, .int .i64 t439] 35 (0, 0)) (by (with_reducible repeat (first | refine qN ?_ _ | refine qD ?_ | refine qA ?_ _)); exact BK440.out) hb); have n2_ := Aside0.mk (below_step (by repeat (first | (with_reducible first | exact HB.out | apply pA | apply pN | apply pD | refine pS ?_ GE428.out | refine pS ?_ GE440.out) | exact HB.out)) hb); have n3_ := Aside0.mk (hbox); have n4_ := Aside0.mk ((by rw [hg]; exact (below_size (by repeat (first | (with_reducible first | exact HB.out | apply pA | apply pN | apply pD | refine pS ?_ GE428.out | refine pS ?_ GE440.out) | exact HB.out))) : w.heap.size ≤ gb450)); have n5_ := Aside0.mk ((by rw [hg]; exact (below_size (by repeat (first | (with_reducible first | exact HB.out | apply pA | apply pN | apply pD | refine pS ?_ GE428.out | refine pS ?_ GE440.out) | exact HB.out))) : w.heap.size ≤ gb450)); have n6_ := Aside0.mk ((by rw [hg]; exact Nat.ne_of_lt (blk_lt (g := gb428) (o := .cells #[.int .u64 a0_0, .int .u64 a0_1, .int .i64 a0_2] 24 (0, 0)) (by (with_reducible repeat (first | refine qN ?_ _ | refine qD ?_ | refine qA ?_ _)); exact BK428.out)) : gb428 ≠ gb450)); have n7_ := Aside0.mk ((by rw [hg]; exact Nat.ne_of_gt (blk_lt (g := gb428) (o := .cells #[.int .u64 a0_0, .int .u64 a0_1, .int .i64 a0_2] 24 (0, 0)) (by (with_reducible repeat (first | refine qN ?_ _ | refine qD ?_ | refine qA ?_ _)); exact BK428.out)) : gb450 ≠ gb428)); have n8_ := Aside0.mk ((by rw [hg]; exact Nat.ne_of_lt (blk_lt (g := gb440) (o := .cells #[.int .i64 t431, .int .i64 t432, .int .i64 t433, .int .u32 t434, .string t435, .int .u64 t436, .int .u64 t437, .int .i64 t438, .int .i64 t439] 35 (0, 0)) (by (with_reducible repeat (first | refine qN ?_ _ | refine qD ?_ | refine qA ?_ _)); exact BK440.out)) : gb440 ≠ gb450)); have n9_ := Aside0.mk ((by rw [hg]; exact Nat.ne_of_gt (blk_lt (g := gb440) (o := .cells #[.int .i64 t431, .int .i64 t432, .int .i64 t433, .int .u32 t434, .string t435, .int .u64 t436, .int .u64 t437, .int .i64 t438, .int .i64 t439] 35 (0, 0)) (by (with_reducible repeat (first | refine qN ?_ _ | refine qD ?_ | refine qA ?_ _)); exact BK440.out)) : gb450 ≠ gb440)); clear BK428; clear BK440; clear HB; have BK428 := n0_; have BK440 := n1_; have HB := n2_; have BK450 := n3_; have GW450 := n4_; have GE450 := n5_; have NB428_450 := n6_; have NB450_428 := n7_; have NB440_450 := n8_; have NB450_440 := n9_; clear n0_ n1_ n2_ n3_ n4_ n5_ n6_ n7_ n8_ n9_; clear hb hbox hg; have hnb22 := NB450_428.out; have hnc22 := NB428_450.out; have hnb23 := NB450_440.out; have hnc23 := NB440_450.out; have hcz24_0 : w21.cell? ⟨gb450, 0, none⟩ = some (.int .i64 0) := (blk_cell BK450.out 0).trans rfl; have hcz24_1 : w21.cell? ⟨gb450, 1, none⟩ = some (.int .i64 0) := (blk_cell BK450.out 1).trans rfl; have hcz24_2 : w21.cell? ⟨gb450, 2, none⟩ = some (.int .i64 0) := (blk_cell BK450.out 2).trans rfl; have hcz24_3 : w21.cell? ⟨gb450, 3, none⟩ = some (.int .u32 0) := (blk_cell BK450.out 3).trans rfl; have hcz24_4 : w21.cell? ⟨gb450, 4, none⟩ = some (.string (⟨#[]⟩ : ByteArray)) := (blk_cell BK450.out 4).trans rfl; have hcz24_5 : w21.cell? ⟨gb450, 5, none⟩ = some (.int .u64 0) := (blk_cell BK450.out 5).trans rfl; have hcz24_6 : w21.cell? ⟨gb450, 6, none⟩ = some (.int .u64 0) := (blk_cell BK450.out 6).trans rfl; have hcz24_7 : w21.cell? ⟨gb450, 7, none⟩ = some (.int .i64 0) := (blk_cell BK450.out 7).trans rfl; have hcz24_8 : w21.cell? ⟨gb450, 8, none⟩ = some (.int .i64 0) := (blk_cell BK450.out 8).trans rfl; have hfz24_0 := blk_frozen BK450.out 0; have hfz24_1 := blk_frozen BK450.out 1; have hfz24_2 := blk_frozen BK450.out 2; have hfz24_3 := blk_frozen BK450.out 3; have hfz24_4 := blk_frozen BK450.out 4; have hfz24_5 := blk_frozen BK450.out 5; have hfz24_6 := blk_frozen BK450.out 6; have hfz24_7 := blk_frozen BK450.out 7; have hfz24_8 := blk_frozen BK450.out 8))
    (try simp only [Act.put, List.setIfInBounds_toArray, List.set_cons_zero, List.set_cons_succ])
    go_cut [10] (fun v10 wc => ∃ (kq : Nat) (x10_8 : Bool), v10 = .bool x10_8 ∧ Aside0 (portreevelaw17_MeterMay.j0 kq a1 a2 t429 x10_8 a0_0 a0_1 a0_2 t431 t432 t433 t434 t435 t436 t437 t438 t439 t441 t442 t443 t444 t445 t446 t447 t448 t449 = some r) ∧ Aside0 (kq ≤ k) ∧ Aside0 (wc.heap[gb428]? = some (.cells #[.int .u64 a0_0, .int .u64 a0_1, .int .i64 a0_2] 24 (0, 0))) ∧ Aside0 (wc.heap[gb440]? = some (.cells #[.int .i64 t431, .int .i64 t432, .int .i64 t433, .int .u32 t434, .string t435, .int .u64 t436, .int .u64 t437, .int .i64 t438, .int .i64 t439] 35 (0, 0))) ∧ Aside0 (wc.heap[gb450]? = some (.cells #[.int .i64 t441, .int .i64 t442, .int .i64 t443, .int .u32 t444, .string t445, .int .u64 t446, .int .u64 t447, .int .i64 t448, .int .i64 t449] 35 (0, 0))) ∧ Aside0 (Below w.heap.size w wc))
    case first =>
      have H := HC9.out
      clear HC9
      by_cases c25 : a1 ≥ 0
      · rw [if_pos c25] at H
        have c25b0 : decide (0 ≤ a1) = true := decide_eq_true c25
        clear c25
        (first | rw [c25b0] | (simp only [i64_w, i32_w]; rw [c25b0]) | skip)
        have H' := Aside0.mk H
        clear H
        go_wp2
        go_meet
        case rel => exact ⟨_, (decide (a1 ≤ 1000000000)), (by first | rfl | (simp; done) | (simp [*]; done)), H', ⟨by first | omega | exact Nat.le_refl _⟩, ⟨by (with_reducible repeat (first | refine qN ?_ _ | refine qD ?_ | refine qA ?_ _)); refine blk_far ?_ NB428_450.out _; (with_reducible repeat (first | refine qN ?_ _ | refine qD ?_ | refine qA ?_ _)); refine blk_far ?_ NB428_450.out _; (with_reducible repeat (first | refine qN ?_ _ | refine qD ?_ | refine qA ?_ _)); refine blk_far ?_ NB428_450.out _; (with_reducible repeat (first | refine qN ?_ _ | refine qD ?_ | refine qA ?_ _)); refine blk_far ?_ NB428_450.out _; (with_reducible repeat (first | refine qN ?_ _ | refine qD ?_ | refine qA ?_ _)); refine blk_far ?_ NB428_450.out _; (with_reducible repeat (first | refine qN ?_ _ | refine qD ?_ | refine qA ?_ _)); refine blk_far ?_ NB428_450.out _; (with_reducible repeat (first | refine qN ?_ _ | refine qD ?_ | refine qA ?_ _)); refine blk_far ?_ NB428_450.out _; (with_reducible repeat (first | refine qN ?_ _ | refine qD ?_ | refine qA ?_ _)); refine blk_far ?_ NB428_450.out _; (with_reducible repeat (first | refine qN ?_ _ | refine qD ?_ | refine qA ?_ _)); refine blk_far ?_ NB428_450.out _; (with_reducible repeat (first | refine qN ?_ _ | refine qD ?_ | refine qA ?_ _)); exact BK428.out⟩, ⟨by (with_reducible repeat (first | refine qN ?_ _ | refine qD ?_ | refine qA ?_ _)); refine blk_far ?_ NB440_450.out _; (with_reducible repeat (first | refine qN ?_ _ | refine qD ?_ | refine qA ?_ _)); refine blk_far ?_ NB440_450.out _; (with_reducible repeat (first | refine qN ?_ _ | refine qD ?_ | refine qA ?_ _)); refine blk_far ?_ NB440_450.out _; (with_reducible repeat (first | refine qN ?_ _ | refine qD ?_ | refine qA ?_ _)); refine blk_far ?_ NB440_450.out _; (with_reducible repeat (first | refine qN ?_ _ | refine qD ?_ | refine qA ?_ _)); refine blk_far ?_ NB440_450.out _; (with_reducible repeat (first | refine qN ?_ _ | refine qD ?_ | refine qA ?_ _)); refine blk_far ?_ NB440_450.out _; (with_reducible repeat (first | refine qN ?_ _ | refine qD ?_ | refine qA ?_ _)); refine blk_far ?_ NB440_450.out _; (with_reducible repeat (first | refine qN ?_ _ | refine qD ?_ | refine qA ?_ _)); refine blk_far ?_ NB440_450.out _; (with_reducible repeat (first | refine qN ?_ _ | refine qD ?_ | refine qA ?_ _)); refine blk_far ?_ NB440_450.out _; (with_reducible repeat (first | refine qN ?_ _ | refine qD ?_ | refine qA ?_ _)); exact BK440.out⟩, ⟨by (with_reducible repeat (first | refine qN ?_ _ | refine qD ?_ | refine qA ?_ _)); refine blk_put (cs := #[.int .i64 t441, .int .i64 t442, .int .i64 t443, .int .u32 t444, .string t445, .int .u64 t446, .int .u64 t447, .int .i64 t448, .int .i64 0]) ?_ 8 _ rfl; (with_reducible repeat (first | refine qN ?_ _ | refine qD ?_ | refine qA ?_ _)); refine blk_put (cs := #[.int .i64 t441, .int .i64 t442, .int .i64 t443, .int .u32 t444, .string t445, .int .u64 t446, .int .u64 t447, .int .i64 0, .int .i64 0]) ?_ 7 _ rfl; (with_reducible repeat (first | refine qN ?_ _ | refine qD ?_ | refine qA ?_ _)); refine blk_put (cs := #[.int .i64 t441, .int .i64 t442, .int .i64 t443, .int .u32 t444, .string t445, .int .u64 t446, .int .u64 0, .int .i64 0, .int .i64 0]) ?_ 6 _ rfl; (with_reducible repeat (first | refine qN ?_ _ | refine qD ?_ | refine qA ?_ _)); refine blk_put (cs := #[.int .i64 t441, .int .i64 t442, .int .i64 t443, .int .u32 t444, .string t445, .int .u64 0, .int .u64 0, .int .i64 0, .int .i64 0]) ?_ 5 _ rfl; (with_reducible repeat (first | refine qN ?_ _ | refine qD ?_ | refine qA ?_ _)); refine blk_put (cs := #[.int .i64 t441, .int .i64 t442, .int .i64 t443, .int .u32 t444, .string (⟨#[]⟩ : ByteArray), .int .u64 0, .int .u64 0, .int .i64 0, .int .i64 0]) ?_ 4 _ rfl; (with_reducible repeat (first | refine qN ?_ _ | refine qD ?_ | refine qA ?_ _)); refine blk_put (cs := #[.int .i64 t441, .int .i64 t442, .int .i64 t443, .int .u32 0, .string (⟨#[]⟩ : ByteArray), .int .u64 0, .int .u64 0, .int .i64 0, .int .i64 0]) ?_ 3 _ rfl; (with_reducible repeat (first | refine qN ?_ _ | refine qD ?_ | refine qA ?_ _)); refine blk_put (cs := #[.int .i64 t441, .int .i64 t442, .int .i64 0, .int .u32 0, .string (⟨#[]⟩ : ByteArray), .int .u64 0, .int .u64 0, .int .i64 0, .int .i64 0]) ?_ 2 _ rfl; (with_reducible repeat (first | refine qN ?_ _ | refine qD ?_ | refine qA ?_ _)); refine blk_put (cs := #[.int .i64 t441, .int .i64 0, .int .i64 0, .int .u32 0, .string (⟨#[]⟩ : ByteArray), .int .u64 0, .int .u64 0, .int .i64 0, .int .i64 0]) ?_ 1 _ rfl; (with_reducible repeat (first | refine qN ?_ _ | refine qD ?_ | refine qA ?_ _)); refine blk_put (cs := #[.int .i64 0, .int .i64 0, .int .i64 0, .int .u32 0, .string (⟨#[]⟩ : ByteArray), .int .u64 0, .int .u64 0, .int .i64 0, .int .i64 0]) ?_ 0 _ rfl; (with_reducible repeat (first | refine qN ?_ _ | refine qD ?_ | refine qA ?_ _)); exact BK450.out⟩, ⟨by repeat (first | (with_reducible first | exact HB.out | apply pA | apply pN | apply pD | refine pS ?_ GE428.out | refine pS ?_ GE440.out | refine pS ?_ GE450.out) | exact HB.out)⟩⟩
      · rw [if_neg c25] at H
        have c25b0 : decide (0 ≤ a1) = false := decide_eq_false c25
        clear c25
        (first | rw [c25b0] | (simp only [i64_w, i32_w]; rw [c25b0]) | skip)
        have H' := Aside0.mk H
        clear H
        go_wp2
        go_meet
        case rel => exact ⟨_, (false), (by first | rfl | (simp; done) | (simp [*]; done)), H', ⟨by first | omega | exact Nat.le_refl _⟩, ⟨by (with_reducible repeat (first | refine qN ?_ _ | refine qD ?_ | refine qA ?_ _)); refine blk_far ?_ NB428_450.out _; (with_reducible repeat (first | refine qN ?_ _ | refine qD ?_ | refine qA ?_ _)); refine blk_far ?_ NB428_450.out _; (with_reducible repeat (first | refine qN ?_ _ | refine qD ?_ | refine qA ?_ _)); refine blk_far ?_ NB428_450.out _; (with_reducible repeat (first | refine qN ?_ _ | refine qD ?_ | refine qA ?_ _)); refine blk_far ?_ NB428_450.out _; (with_reducible repeat (first | refine qN ?_ _ | refine qD ?_ | refine qA ?_ _)); refine blk_far ?_ NB428_450.out _; (with_reducible repeat (first | refine qN ?_ _ | refine qD ?_ | refine qA ?_ _)); refine blk_far ?_ NB428_450.out _; (with_reducible repeat (first | refine qN ?_ _ | refine qD ?_ | refine qA ?_ _)); refine blk_far ?_ NB428_450.out _; (with_reducible repeat (first | refine qN ?_ _ | refine qD ?_ | refine qA ?_ _)); refine blk_far ?_ NB428_450.out _; (with_reducible repeat (first | refine qN ?_ _ | refine qD ?_ | refine qA ?_ _)); refine blk_far ?_ NB428_450.out _; (with_reducible repeat (first | refine qN ?_ _ | refine qD ?_ | refine qA ?_ _)); exact BK428.out⟩, ⟨by (with_reducible repeat (first | refine qN ?_ _ | refine qD ?_ | refine qA ?_ _)); refine blk_far ?_ NB440_450.out _; (with_reducible repeat (first | refine qN ?_ _ | refine qD ?_ | refine qA ?_ _)); refine blk_far ?_ NB440_450.out _; (with_reducible repeat (first | refine qN ?_ _ | refine qD ?_ | refine qA ?_ _)); refine blk_far ?_ NB440_450.out _; (with_reducible repeat (first | refine qN ?_ _ | refine qD ?_ | refine qA ?_ _)); refine blk_far ?_ NB440_450.out _; (with_reducible repeat (first | refine qN ?_ _ | refine qD ?_ | refine qA ?_ _)); refine blk_far ?_ NB440_450.out _; (with_reducible repeat (first | refine qN ?_ _ | refine qD ?_ | refine qA ?_ _)); refine blk_far ?_ NB440_450.out _; (with_reducible repeat (first | refine qN ?_ _ | refine qD ?_ | refine qA ?_ _)); refine blk_far ?_ NB440_450.out _; (with_reducible repeat (first | refine qN ?_ _ | refine qD ?_ | refine qA ?_ _)); refine blk_far ?_ NB440_450.out _; (with_reducible repeat (first | refine qN ?_ _ | refine qD ?_ | refine qA ?_ _)); refine blk_far ?_ NB440_450.out _; (with_reducible repeat (first | refine qN ?_ _ | refine qD ?_ | refine qA ?_ _)); exact BK440.out⟩, ⟨by (with_reducible repeat (first | refine qN ?_ _ | refine qD ?_ | refine qA ?_ _)); refine blk_put (cs := #[.int .i64 t441, .int .i64 t442, .int .i64 t443, .int .u32 t444, .string t445, .int .u64 t446, .int .u64 t447, .int .i64 t448, .int .i64 0]) ?_ 8 _ rfl; (with_reducible repeat (first | refine qN ?_ _ | refine qD ?_ | refine qA ?_ _)); refine blk_put (cs := #[.int .i64 t441, .int .i64 t442, .int .i64 t443, .int .u32 t444, .string t445, .int .u64 t446, .int .u64 t447, .int .i64 0, .int .i64 0]) ?_ 7 _ rfl; (with_reducible repeat (first | refine qN ?_ _ | refine qD ?_ | refine qA ?_ _)); refine blk_put (cs := #[.int .i64 t441, .int .i64 t442, .int .i64 t443, .int .u32 t444, .string t445, .int .u64 t446, .int .u64 0, .int .i64 0, .int .i64 0]) ?_ 6 _ rfl; (with_reducible repeat (first | refine qN ?_ _ | refine qD ?_ | refine qA ?_ _)); refine blk_put (cs := #[.int .i64 t441, .int .i64 t442, .int .i64 t443, .int .u32 t444, .string t445, .int .u64 0, .int .u64 0, .int .i64 0, .int .i64 0]) ?_ 5 _ rfl; (with_reducible repeat (first | refine qN ?_ _ | refine qD ?_ | refine qA ?_ _)); refine blk_put (cs := #[.int .i64 t441, .int .i64 t442, .int .i64 t443, .int .u32 t444, .string (⟨#[]⟩ : ByteArray), .int .u64 0, .int .u64 0, .int .i64 0, .int .i64 0]) ?_ 4 _ rfl; (with_reducible repeat (first | refine qN ?_ _ | refine qD ?_ | refine qA ?_ _)); refine blk_put (cs := #[.int .i64 t441, .int .i64 t442, .int .i64 t443, .int .u32 0, .string (⟨#[]⟩ : ByteArray), .int .u64 0, .int .u64 0, .int .i64 0, .int .i64 0]) ?_ 3 _ rfl; (with_reducible repeat (first | refine qN ?_ _ | refine qD ?_ | refine qA ?_ _)); refine blk_put (cs := #[.int .i64 t441, .int .i64 t442, .int .i64 0, .int .u32 0, .string (⟨#[]⟩ : ByteArray), .int .u64 0, .int .u64 0, .int .i64 0, .int .i64 0]) ?_ 2 _ rfl; (with_reducible repeat (first | refine qN ?_ _ | refine qD ?_ | refine qA ?_ _)); refine blk_put (cs := #[.int .i64 t441, .int .i64 0, .int .i64 0, .int .u32 0, .string (⟨#[]⟩ : ByteArray), .int .u64 0, .int .u64 0, .int .i64 0, .int .i64 0]) ?_ 1 _ rfl; (with_reducible repeat (first | refine qN ?_ _ | refine qD ?_ | refine qA ?_ _)); refine blk_put (cs := #[.int .i64 0, .int .i64 0, .int .i64 0, .int .u32 0, .string (⟨#[]⟩ : ByteArray), .int .u64 0, .int .u64 0, .int .i64 0, .int .i64 0]) ?_ 0 _ rfl; (with_reducible repeat (first | refine qN ?_ _ | refine qD ?_ | refine qA ?_ _)); exact BK450.out⟩, ⟨by repeat (first | (with_reducible first | exact HB.out | apply pA | apply pN | apply pD | refine pS ?_ GE428.out | refine pS ?_ GE440.out | refine pS ?_ GE450.out) | exact HB.out)⟩⟩
    case rest =>
      clear HC9
      try clear c1
      try clear c2
      try clear p2
      try clear c6
      try clear c8
      try clear c9
      try clear c10
      try clear c17
      try clear c18
      try clear c20
      try clear c22
      try clear c23
      try clear c25
      try clear c25b0
      try clear hcz12_0
      try clear hcz12_1
      try clear hcz12_2
      try clear hcz14_0
      try clear hcz14_1
      try clear hcz14_2
      try clear hcz18_0
      try clear hcz18_1
      try clear hcz18_2
      try clear hcz18_3
      try clear hcz18_4
      try clear hcz18_5
      try clear hcz18_6
      try clear hcz18_7
      try clear hcz18_8
      try clear hcz19_0
      try clear hcz19_1
      try clear hcz19_2
      try clear hcz24_0
      try clear hcz24_1
      try clear hcz24_2
      try clear hcz24_3
      try clear hcz24_4
      try clear hcz24_5
      try clear hcz24_6
      try clear hcz24_7
      try clear hcz24_8
      try clear hfz12_0
      try clear hfz12_1
      try clear hfz12_2
      try clear hfz14_0
      try clear hfz14_1
      try clear hfz14_2
      try clear hfz18_0
      try clear hfz18_1
      try clear hfz18_2
      try clear hfz18_3
      try clear hfz18_4
      try clear hfz18_5
      try clear hfz18_6
      try clear hfz18_7
      try clear hfz18_8
      try clear hfz19_0
      try clear hfz19_1
      try clear hfz19_2
      try clear hfz24_0
      try clear hfz24_1
      try clear hfz24_2
      try clear hfz24_3
      try clear hfz24_4
      try clear hfz24_5
      try clear hfz24_6
      try clear hfz24_7
      try clear hfz24_8
      obtain ⟨kq, x10_8, rfl, HA, HJ8, BK428, BK440, BK450, HB⟩ := hcut
      cases kq with
      | zero => exact absurd HA.out (by simp [portreevelaw17_MeterMay.j0])
      | succ kj8 =>
        have H := HA.out
        clear HA
        simp only [portreevelaw17_MeterMay.j0] at H
        by_cases c26 : t429 = true
        · subst c26
          have H1 : ((portreeveref04_May.f kj8 t431 t432 t433 t434 t435 t436 t437 t438 t439).bind fun t451 => (if (t451 == x10_8) = true then ((portreeveref04_May.f kj8 t441 t442 t443 t444 t445 t446 t447 t448 t449).bind fun t452 => (if x10_8 = true then (if a2 ≥ 0 then (if (t452 == (decide (a2 ≤ 255))) = true then (if t436 = a0_0 then (if t437 = a0_1 then (if t446 = a0_0 then (if t447 = a0_1 then (if t432 = a1 then (some (t442 == a1)) else (some false)) else (some false)) else (some false)) else (some false)) else (some false)) else (some false)) else (if (t452 == false) = true then (if t436 = a0_0 then (if t437 = a0_1 then (if t446 = a0_0 then (if t447 = a0_1 then (if t432 = a1 then (some (t442 == a1)) else (some false)) else (some false)) else (some false)) else (some false)) else (some false)) else (some false))) else (if (t452 == false) = true then (if t436 = a0_0 then (if t437 = a0_1 then (if t446 = a0_0 then (if t447 = a0_1 then (if t432 = a1 then (some (t442 == a1)) else (some false)) else (some false)) else (some false)) else (some false)) else (some false)) else (some false)))) else (some false))) = some r := by rw [if_pos rfl] at H; exact H
          clear H
          have H := H1
          clear H1
          replace H := Option.bind_eq_some_iff.mp H
          obtain ⟨t451, A270, H⟩ := H
          replace H : (if (t451 == x10_8) = true then ((portreeveref04_May.f kj8 t441 t442 t443 t444 t445 t446 t447 t448 t449).bind fun t452 => (if x10_8 = true then (if a2 ≥ 0 then (if (t452 == (decide (a2 ≤ 255))) = true then (if t436 = a0_0 then (if t437 = a0_1 then (if t446 = a0_0 then (if t447 = a0_1 then (if t432 = a1 then (some (t442 == a1)) else (some false)) else (some false)) else (some false)) else (some false)) else (some false)) else (some false)) else (if (t452 == false) = true then (if t436 = a0_0 then (if t437 = a0_1 then (if t446 = a0_0 then (if t447 = a0_1 then (if t432 = a1 then (some (t442 == a1)) else (some false)) else (some false)) else (some false)) else (some false)) else (some false)) else (some false))) else (if (t452 == false) = true then (if t436 = a0_0 then (if t437 = a0_1 then (if t446 = a0_0 then (if t447 = a0_1 then (if t432 = a1 then (some (t442 == a1)) else (some false)) else (some false)) else (some false)) else (some false)) else (some false)) else (some false)))) else (some false)) = some r := H
          have A27 := Aside0.mk A270
          clear A270
          by_cases c28 : (t451 == x10_8) = true
          · rw [if_pos c28] at H
            have c28b0 : (t451 == x10_8) = true := c28
            (try (have c28b1 : decide (t451 = x10_8) = true := by simpa using c28))
            (try (have c28b2 : (t451 == x10_8) = true := by simpa using c28))
            clear c28
            replace H := Option.bind_eq_some_iff.mp H
            obtain ⟨t452, A290, H⟩ := H
            replace H : (if x10_8 = true then (if a2 ≥ 0 then (if (t452 == (decide (a2 ≤ 255))) = true then (if t436 = a0_0 then (if t437 = a0_1 then (if t446 = a0_0 then (if t447 = a0_1 then (if t432 = a1 then (some (t442 == a1)) else (some false)) else (some false)) else (some false)) else (some false)) else (some false)) else (some false)) else (if (t452 == false) = true then (if t436 = a0_0 then (if t437 = a0_1 then (if t446 = a0_0 then (if t447 = a0_1 then (if t432 = a1 then (some (t442 == a1)) else (some false)) else (some false)) else (some false)) else (some false)) else (some false)) else (some false))) else (if (t452 == false) = true then (if t436 = a0_0 then (if t437 = a0_1 then (if t446 = a0_0 then (if t447 = a0_1 then (if t432 = a1 then (some (t442 == a1)) else (some false)) else (some false)) else (some false)) else (some false)) else (some false)) else (some false))) = some r := H
            have A29 := Aside0.mk A290
            clear A290
            by_cases c30 : x10_8 = true
            · subst c30
              have H1 : (if a2 ≥ 0 then (if (t452 == (decide (a2 ≤ 255))) = true then (if t436 = a0_0 then (if t437 = a0_1 then (if t446 = a0_0 then (if t447 = a0_1 then (if t432 = a1 then (some (t442 == a1)) else (some false)) else (some false)) else (some false)) else (some false)) else (some false)) else (some false)) else (if (t452 == false) = true then (if t436 = a0_0 then (if t437 = a0_1 then (if t446 = a0_0 then (if t447 = a0_1 then (if t432 = a1 then (some (t442 == a1)) else (some false)) else (some false)) else (some false)) else (some false)) else (some false)) else (some false))) = some r := by rw [if_pos rfl] at H; exact H
              clear H
              have H := H1
              clear H1
              by_cases c31 : a2 ≥ 0
              · rw [if_pos c31] at H
                have c31b0 : decide (0 ≤ a2) = true := decide_eq_true c31
                clear c31
                by_cases c32 : (t452 == (decide (a2 ≤ 255))) = true
                · rw [if_pos c32] at H
                  have c32b0 : (t452 == (decide (a2 ≤ 255))) = true := c32
                  (try (have c32b1 : decide (t452 = (decide (a2 ≤ 255))) = true := by simpa using c32))
                  (try (have c32b2 : (t452 == (decide (a2 ≤ 255))) = true := by simpa using c32))
                  clear c32
                  by_cases c33 : t436 = a0_0
                  · rw [if_pos c33] at H
                    have c33b0 : (t436 == a0_0) = true := beq_iff_eq.mpr c33
                    have c33b1 : (t436 != a0_0) = false := bne_eq_false_iff_eq.mpr c33
                    clear c33
                    by_cases c34 : t437 = a0_1
                    · rw [if_pos c34] at H
                      have c34b0 : (t437 == a0_1) = true := beq_iff_eq.mpr c34
                      have c34b1 : (t437 != a0_1) = false := bne_eq_false_iff_eq.mpr c34
                      clear c34
                      by_cases c35 : t446 = a0_0
                      · rw [if_pos c35] at H
                        have c35b0 : (t446 == a0_0) = true := beq_iff_eq.mpr c35
                        have c35b1 : (t446 != a0_0) = false := bne_eq_false_iff_eq.mpr c35
                        clear c35
                        by_cases c36 : t447 = a0_1
                        · rw [if_pos c36] at H
                          have c36b0 : (t447 == a0_1) = true := beq_iff_eq.mpr c36
                          have c36b1 : (t447 != a0_1) = false := bne_eq_false_iff_eq.mpr c36
                          clear c36
                          by_cases c37 : t432 = a1
                          · rw [if_pos c37] at H
                            have c37b0 : (t432 == a1) = true := beq_iff_eq.mpr c37
                            have c37b1 : (t432 != a1) = false := bne_eq_false_iff_eq.mpr c37
                            clear c37
                            clear hlaw_
                            obtain rfl := Option.some.inj H
                            have hnb38 := NB440_428.out
                            have hnc38 := NB428_440.out
                            have hnb39 := NB440_450.out
                            have hnc39 := NB450_440.out
                            have hcz40_0 : wc.cell? ⟨gb440, 0, none⟩ = some (.int .i64 t431) := (blk_cell BK440.out 0).trans rfl
                            have hcz40_1 : wc.cell? ⟨gb440, 1, none⟩ = some (.int .i64 t432) := (blk_cell BK440.out 1).trans rfl
                            have hcz40_2 : wc.cell? ⟨gb440, 2, none⟩ = some (.int .i64 t433) := (blk_cell BK440.out 2).trans rfl
                            have hcz40_3 : wc.cell? ⟨gb440, 3, none⟩ = some (.int .u32 t434) := (blk_cell BK440.out 3).trans rfl
                            have hcz40_4 : wc.cell? ⟨gb440, 4, none⟩ = some (.string t435) := (blk_cell BK440.out 4).trans rfl
                            have hcz40_5 : wc.cell? ⟨gb440, 5, none⟩ = some (.int .u64 t436) := (blk_cell BK440.out 5).trans rfl
                            have hcz40_6 : wc.cell? ⟨gb440, 6, none⟩ = some (.int .u64 t437) := (blk_cell BK440.out 6).trans rfl
                            have hcz40_7 : wc.cell? ⟨gb440, 7, none⟩ = some (.int .i64 t438) := (blk_cell BK440.out 7).trans rfl
                            have hcz40_8 : wc.cell? ⟨gb440, 8, none⟩ = some (.int .i64 t439) := (blk_cell BK440.out 8).trans rfl
                            have hfz40_0 := blk_frozen BK440.out 0
                            have hfz40_1 := blk_frozen BK440.out 1
                            have hfz40_2 := blk_frozen BK440.out 2
                            have hfz40_3 := blk_frozen BK440.out 3
                            have hfz40_4 := blk_frozen BK440.out 4
                            have hfz40_5 := blk_frozen BK440.out 5
                            have hfz40_6 := blk_frozen BK440.out 6
                            have hfz40_7 := blk_frozen BK440.out 7
                            have hfz40_8 := blk_frozen BK440.out 8
                            go_wp2_with (first | (go_at_call 25; (with_reducible refine (portreeveref04_May.calls kj8 t431 t432 t433 t434 t435 t436 t437 t438 t439 t451 _ A27.out).mono ?_); rintro e w41 ⟨rfl, hb⟩; have n0_ := Aside0.mk (blk_below (g := gb428) (o := .cells #[.int .u64 a0_0, .int .u64 a0_1, .int .i64 a0_2] 24 (0, 0)) (by (with_reducible repeat (first | refine qN ?_ _ | refine qD ?_ | refine qA ?_ _)); exact BK428.out) hb); have n1_ := Aside0.mk (blk_below (g := gb440) (o := .cells #[.int .i64 t431, .int .i64 t432, .int .i64 t433, .int .u32 t434, .string t435, .int .u64 t436, .int .u64 t437, .int .i64 t438, .int .i64 t439] 35 (0, 0)) (by (with_reducible repeat (first | refine qN ?_ _ | refine qD ?_ | refine qA ?_ _)); exact BK440.out) hb); have n2_ := Aside0.mk (blk_below (g := gb450) (o := .cells #[.int .i64 t441, .int .i64 t442, .int .i64 t443, .int .u32 t444, .string t445, .int .u64 t446, .int .u64 t447, .int .i64 t448, .int .i64 t449] 35 (0, 0)) (by (with_reducible repeat (first | refine qN ?_ _ | refine qD ?_ | refine qA ?_ _)); exact BK450.out) hb); have n3_ := Aside0.mk (below_step (by repeat (first | (with_reducible first | exact HB.out | apply pA | apply pN | apply pD | refine pS ?_ GE428.out | refine pS ?_ GE440.out | refine pS ?_ GE450.out) | exact HB.out)) hb); clear BK428; clear BK440; clear BK450; clear HB; have BK428 := n0_; have BK440 := n1_; have BK450 := n2_; have HB := n3_; clear n0_ n1_ n2_ n3_; (try clear hb); (try clear hb2); (try clear hk); (try clear hi); have hnb42 := NB450_428.out; have hnc42 := NB428_450.out; have hcz43_0 : w41.cell? ⟨gb450, 0, none⟩ = some (.int .i64 t441) := (blk_cell BK450.out 0).trans rfl; have hcz43_1 : w41.cell? ⟨gb450, 1, none⟩ = some (.int .i64 t442) := (blk_cell BK450.out 1).trans rfl; have hcz43_2 : w41.cell? ⟨gb450, 2, none⟩ = some (.int .i64 t443) := (blk_cell BK450.out 2).trans rfl; have hcz43_3 : w41.cell? ⟨gb450, 3, none⟩ = some (.int .u32 t444) := (blk_cell BK450.out 3).trans rfl; have hcz43_4 : w41.cell? ⟨gb450, 4, none⟩ = some (.string t445) := (blk_cell BK450.out 4).trans rfl; have hcz43_5 : w41.cell? ⟨gb450, 5, none⟩ = some (.int .u64 t446) := (blk_cell BK450.out 5).trans rfl; have hcz43_6 : w41.cell? ⟨gb450, 6, none⟩ = some (.int .u64 t447) := (blk_cell BK450.out 6).trans rfl; have hcz43_7 : w41.cell? ⟨gb450, 7, none⟩ = some (.int .i64 t448) := (blk_cell BK450.out 7).trans rfl; have hcz43_8 : w41.cell? ⟨gb450, 8, none⟩ = some (.int .i64 t449) := (blk_cell BK450.out 8).trans rfl; have hfz43_0 := blk_frozen BK450.out 0; have hfz43_1 := blk_frozen BK450.out 1; have hfz43_2 := blk_frozen BK450.out 2; have hfz43_3 := blk_frozen BK450.out 3; have hfz43_4 := blk_frozen BK450.out 4; have hfz43_5 := blk_frozen BK450.out 5; have hfz43_6 := blk_frozen BK450.out 6; have hfz43_7 := blk_frozen BK450.out 7; have hfz43_8 := blk_frozen BK450.out 8) | (go_at_call 25; (with_reducible refine (portreeveref04_May.calls kj8 t441 t442 t443 t444 t445 t446 t447 t448 t449 t452 _ A29.out).mono ?_); rintro e w44 ⟨rfl, hb⟩; have n0_ := Aside0.mk (blk_below (g := gb428) (o := .cells #[.int .u64 a0_0, .int .u64 a0_1, .int .i64 a0_2] 24 (0, 0)) (by (with_reducible repeat (first | refine qN ?_ _ | refine qD ?_ | refine qA ?_ _)); exact BK428.out) hb); have n1_ := Aside0.mk (blk_below (g := gb440) (o := .cells #[.int .i64 t431, .int .i64 t432, .int .i64 t433, .int .u32 t434, .string t435, .int .u64 t436, .int .u64 t437, .int .i64 t438, .int .i64 t439] 35 (0, 0)) (by (with_reducible repeat (first | refine qN ?_ _ | refine qD ?_ | refine qA ?_ _)); exact BK440.out) hb); have n2_ := Aside0.mk (blk_below (g := gb450) (o := .cells #[.int .i64 t441, .int .i64 t442, .int .i64 t443, .int .u32 t444, .string t445, .int .u64 t446, .int .u64 t447, .int .i64 t448, .int .i64 t449] 35 (0, 0)) (by (with_reducible repeat (first | refine qN ?_ _ | refine qD ?_ | refine qA ?_ _)); exact BK450.out) hb); have n3_ := Aside0.mk (below_step (by repeat (first | (with_reducible first | exact HB.out | apply pA | apply pN | apply pD | refine pS ?_ GE428.out | refine pS ?_ GE440.out | refine pS ?_ GE450.out) | exact HB.out)) hb); clear BK428; clear BK440; clear BK450; clear HB; have BK428 := n0_; have BK440 := n1_; have BK450 := n2_; have HB := n3_; clear n0_ n1_ n2_ n3_; (try clear hb); (try clear hb2); (try clear hk); (try clear hi); have hcz45_0 : w44.cell? ⟨gb440, 0, none⟩ = some (.int .i64 t431) := (blk_cell BK440.out 0).trans rfl; have hcz45_1 : w44.cell? ⟨gb440, 1, none⟩ = some (.int .i64 t432) := (blk_cell BK440.out 1).trans rfl; have hcz45_2 : w44.cell? ⟨gb440, 2, none⟩ = some (.int .i64 t433) := (blk_cell BK440.out 2).trans rfl; have hcz45_3 : w44.cell? ⟨gb440, 3, none⟩ = some (.int .u32 t434) := (blk_cell BK440.out 3).trans rfl; have hcz45_4 : w44.cell? ⟨gb440, 4, none⟩ = some (.string t435) := (blk_cell BK440.out 4).trans rfl; have hcz45_5 : w44.cell? ⟨gb440, 5, none⟩ = some (.int .u64 t436) := (blk_cell BK440.out 5).trans rfl; have hcz45_6 : w44.cell? ⟨gb440, 6, none⟩ = some (.int .u64 t437) := (blk_cell BK440.out 6).trans rfl; have hcz45_7 : w44.cell? ⟨gb440, 7, none⟩ = some (.int .i64 t438) := (blk_cell BK440.out 7).trans rfl; have hcz45_8 : w44.cell? ⟨gb440, 8, none⟩ = some (.int .i64 t439) := (blk_cell BK440.out 8).trans rfl; have hfz45_0 := blk_frozen BK440.out 0; have hfz45_1 := blk_frozen BK440.out 1; have hfz45_2 := blk_frozen BK440.out 2; have hfz45_3 := blk_frozen BK440.out 3; have hfz45_4 := blk_frozen BK440.out 4; have hfz45_5 := blk_frozen BK440.out 5; have hfz45_6 := blk_frozen BK440.out 6; have hfz45_7 := blk_frozen BK440.out 7; have hfz45_8 := blk_frozen BK440.out 8; have hcz46_0 : w44.cell? ⟨gb428, 0, none⟩ = some (.int .u64 a0_0) := (blk_cell BK428.out 0).trans rfl; have hcz46_1 : w44.cell? ⟨gb428, 1, none⟩ = some (.int .u64 a0_1) := (blk_cell BK428.out 1).trans rfl; have hcz46_2 : w44.cell? ⟨gb428, 2, none⟩ = some (.int .i64 a0_2) := (blk_cell BK428.out 2).trans rfl; have hfz46_0 := blk_frozen BK428.out 0; have hfz46_1 := blk_frozen BK428.out 1; have hfz46_2 := blk_frozen BK428.out 2; have hcz47_0 : w44.cell? ⟨gb450, 0, none⟩ = some (.int .i64 t441) := (blk_cell BK450.out 0).trans rfl; have hcz47_1 : w44.cell? ⟨gb450, 1, none⟩ = some (.int .i64 t442) := (blk_cell BK450.out 1).trans rfl; have hcz47_2 : w44.cell? ⟨gb450, 2, none⟩ = some (.int .i64 t443) := (blk_cell BK450.out 2).trans rfl; have hcz47_3 : w44.cell? ⟨gb450, 3, none⟩ = some (.int .u32 t444) := (blk_cell BK450.out 3).trans rfl; have hcz47_4 : w44.cell? ⟨gb450, 4, none⟩ = some (.string t445) := (blk_cell BK450.out 4).trans rfl; have hcz47_5 : w44.cell? ⟨gb450, 5, none⟩ = some (.int .u64 t446) := (blk_cell BK450.out 5).trans rfl; have hcz47_6 : w44.cell? ⟨gb450, 6, none⟩ = some (.int .u64 t447) := (blk_cell BK450.out 6).trans rfl; have hcz47_7 : w44.cell? ⟨gb450, 7, none⟩ = some (.int .i64 t448) := (blk_cell BK450.out 7).trans rfl; have hcz47_8 : w44.cell? ⟨gb450, 8, none⟩ = some (.int .i64 t449) := (blk_cell BK450.out 8).trans rfl; have hfz47_0 := blk_frozen BK450.out 0; have hfz47_1 := blk_frozen BK450.out 1; have hfz47_2 := blk_frozen BK450.out 2; have hfz47_3 := blk_frozen BK450.out 3; have hfz47_4 := blk_frozen BK450.out 4; have hfz47_5 := blk_frozen BK450.out 5; have hfz47_6 := blk_frozen BK450.out 6; have hfz47_7 := blk_frozen BK450.out 7; have hfz47_8 := blk_frozen BK450.out 8))
                            go_ret
                            exact ⟨by first | rfl | (simp [errW_none, errW_some] <;> rfl) | (simp [*, errW_none, errW_some] <;> rfl), by repeat (first | (with_reducible first | exact HB.out | apply pA | apply pN | apply pD | refine pS ?_ GE428.out | refine pS ?_ GE440.out | refine pS ?_ GE450.out) | exact HB.out)⟩
                          · rw [if_neg c37] at H
                            have c37b0 : (t432 == a1) = false := beq_eq_false_iff_ne.mpr c37
                            have c37b1 : (t432 != a1) = true := bne_iff_ne.mpr c37
                            exact absurd ((Option.some.inj H).trans hlaw_.out) (by decide)
                        · rw [if_neg c36] at H
                          have c36b0 : (t447 == a0_1) = false := beq_eq_false_iff_ne.mpr c36
                          have c36b1 : (t447 != a0_1) = true := bne_iff_ne.mpr c36
                          exact absurd ((Option.some.inj H).trans hlaw_.out) (by decide)
                      · rw [if_neg c35] at H
                        have c35b0 : (t446 == a0_0) = false := beq_eq_false_iff_ne.mpr c35
                        have c35b1 : (t446 != a0_0) = true := bne_iff_ne.mpr c35
                        exact absurd ((Option.some.inj H).trans hlaw_.out) (by decide)
                    · rw [if_neg c34] at H
                      have c34b0 : (t437 == a0_1) = false := beq_eq_false_iff_ne.mpr c34
                      have c34b1 : (t437 != a0_1) = true := bne_iff_ne.mpr c34
                      exact absurd ((Option.some.inj H).trans hlaw_.out) (by decide)
                  · rw [if_neg c33] at H
                    have c33b0 : (t436 == a0_0) = false := beq_eq_false_iff_ne.mpr c33
                    have c33b1 : (t436 != a0_0) = true := bne_iff_ne.mpr c33
                    exact absurd ((Option.some.inj H).trans hlaw_.out) (by decide)
                · rw [if_neg c32] at H
                  have c32b0 : (t452 == (decide (a2 ≤ 255))) = false := by simpa using c32
                  (try (have c32b1 : decide (t452 = (decide (a2 ≤ 255))) = false := by simpa using c32))
                  (try (have c32b2 : (t452 == (decide (a2 ≤ 255))) = false := by simpa using c32))
                  (try (have c32b3 : ¬ (t452 = (decide (a2 ≤ 255))) := by simpa using c32))
                  clear c32
                  exact absurd ((Option.some.inj H).trans hlaw_.out) (by decide)
              · rw [if_neg c31] at H
                have c31b0 : decide (0 ≤ a2) = false := decide_eq_false c31
                clear c31
                by_cases c48 : (t452 == false) = true
                · rw [if_pos c48] at H
                  have c48b0 : (t452 == false) = true := c48
                  (try (have c48b1 : decide (t452 = false) = true := by simpa using c48))
                  (try (have c48b2 : (t452 == false) = true := by simpa using c48))
                  clear c48
                  by_cases c49 : t436 = a0_0
                  · rw [if_pos c49] at H
                    have c49b0 : (t436 == a0_0) = true := beq_iff_eq.mpr c49
                    have c49b1 : (t436 != a0_0) = false := bne_eq_false_iff_eq.mpr c49
                    clear c49
                    by_cases c50 : t437 = a0_1
                    · rw [if_pos c50] at H
                      have c50b0 : (t437 == a0_1) = true := beq_iff_eq.mpr c50
                      have c50b1 : (t437 != a0_1) = false := bne_eq_false_iff_eq.mpr c50
                      clear c50
                      by_cases c51 : t446 = a0_0
                      · rw [if_pos c51] at H
                        have c51b0 : (t446 == a0_0) = true := beq_iff_eq.mpr c51
                        have c51b1 : (t446 != a0_0) = false := bne_eq_false_iff_eq.mpr c51
                        clear c51
                        by_cases c52 : t447 = a0_1
                        · rw [if_pos c52] at H
                          have c52b0 : (t447 == a0_1) = true := beq_iff_eq.mpr c52
                          have c52b1 : (t447 != a0_1) = false := bne_eq_false_iff_eq.mpr c52
                          clear c52
                          by_cases c53 : t432 = a1
                          · rw [if_pos c53] at H
                            have c53b0 : (t432 == a1) = true := beq_iff_eq.mpr c53
                            have c53b1 : (t432 != a1) = false := bne_eq_false_iff_eq.mpr c53
                            clear c53
                            clear hlaw_
                            obtain rfl := Option.some.inj H
                            have hnb54 := NB440_428.out
                            have hnc54 := NB428_440.out
                            have hnb55 := NB440_450.out
                            have hnc55 := NB450_440.out
                            have hcz56_0 : wc.cell? ⟨gb440, 0, none⟩ = some (.int .i64 t431) := (blk_cell BK440.out 0).trans rfl
                            have hcz56_1 : wc.cell? ⟨gb440, 1, none⟩ = some (.int .i64 t432) := (blk_cell BK440.out 1).trans rfl
                            have hcz56_2 : wc.cell? ⟨gb440, 2, none⟩ = some (.int .i64 t433) := (blk_cell BK440.out 2).trans rfl
                            have hcz56_3 : wc.cell? ⟨gb440, 3, none⟩ = some (.int .u32 t434) := (blk_cell BK440.out 3).trans rfl
                            have hcz56_4 : wc.cell? ⟨gb440, 4, none⟩ = some (.string t435) := (blk_cell BK440.out 4).trans rfl
                            have hcz56_5 : wc.cell? ⟨gb440, 5, none⟩ = some (.int .u64 t436) := (blk_cell BK440.out 5).trans rfl
                            have hcz56_6 : wc.cell? ⟨gb440, 6, none⟩ = some (.int .u64 t437) := (blk_cell BK440.out 6).trans rfl
                            have hcz56_7 : wc.cell? ⟨gb440, 7, none⟩ = some (.int .i64 t438) := (blk_cell BK440.out 7).trans rfl
                            have hcz56_8 : wc.cell? ⟨gb440, 8, none⟩ = some (.int .i64 t439) := (blk_cell BK440.out 8).trans rfl
                            have hfz56_0 := blk_frozen BK440.out 0
                            have hfz56_1 := blk_frozen BK440.out 1
                            have hfz56_2 := blk_frozen BK440.out 2
                            have hfz56_3 := blk_frozen BK440.out 3
                            have hfz56_4 := blk_frozen BK440.out 4
                            have hfz56_5 := blk_frozen BK440.out 5
                            have hfz56_6 := blk_frozen BK440.out 6
                            have hfz56_7 := blk_frozen BK440.out 7
                            have hfz56_8 := blk_frozen BK440.out 8
                            go_wp2_with (first | (go_at_call 25; (with_reducible refine (portreeveref04_May.calls kj8 t431 t432 t433 t434 t435 t436 t437 t438 t439 t451 _ A27.out).mono ?_); rintro e w57 ⟨rfl, hb⟩; have n0_ := Aside0.mk (blk_below (g := gb428) (o := .cells #[.int .u64 a0_0, .int .u64 a0_1, .int .i64 a0_2] 24 (0, 0)) (by (with_reducible repeat (first | refine qN ?_ _ | refine qD ?_ | refine qA ?_ _)); exact BK428.out) hb); have n1_ := Aside0.mk (blk_below (g := gb440) (o := .cells #[.int .i64 t431, .int .i64 t432, .int .i64 t433, .int .u32 t434, .string t435, .int .u64 t436, .int .u64 t437, .int .i64 t438, .int .i64 t439] 35 (0, 0)) (by (with_reducible repeat (first | refine qN ?_ _ | refine qD ?_ | refine qA ?_ _)); exact BK440.out) hb); have n2_ := Aside0.mk (blk_below (g := gb450) (o := .cells #[.int .i64 t441, .int .i64 t442, .int .i64 t443, .int .u32 t444, .string t445, .int .u64 t446, .int .u64 t447, .int .i64 t448, .int .i64 t449] 35 (0, 0)) (by (with_reducible repeat (first | refine qN ?_ _ | refine qD ?_ | refine qA ?_ _)); exact BK450.out) hb); have n3_ := Aside0.mk (below_step (by repeat (first | (with_reducible first | exact HB.out | apply pA | apply pN | apply pD | refine pS ?_ GE428.out | refine pS ?_ GE440.out | refine pS ?_ GE450.out) | exact HB.out)) hb); clear BK428; clear BK440; clear BK450; clear HB; have BK428 := n0_; have BK440 := n1_; have BK450 := n2_; have HB := n3_; clear n0_ n1_ n2_ n3_; (try clear hb); (try clear hb2); (try clear hk); (try clear hi); have hnb58 := NB450_428.out; have hnc58 := NB428_450.out; have hcz59_0 : w57.cell? ⟨gb450, 0, none⟩ = some (.int .i64 t441) := (blk_cell BK450.out 0).trans rfl; have hcz59_1 : w57.cell? ⟨gb450, 1, none⟩ = some (.int .i64 t442) := (blk_cell BK450.out 1).trans rfl; have hcz59_2 : w57.cell? ⟨gb450, 2, none⟩ = some (.int .i64 t443) := (blk_cell BK450.out 2).trans rfl; have hcz59_3 : w57.cell? ⟨gb450, 3, none⟩ = some (.int .u32 t444) := (blk_cell BK450.out 3).trans rfl; have hcz59_4 : w57.cell? ⟨gb450, 4, none⟩ = some (.string t445) := (blk_cell BK450.out 4).trans rfl; have hcz59_5 : w57.cell? ⟨gb450, 5, none⟩ = some (.int .u64 t446) := (blk_cell BK450.out 5).trans rfl; have hcz59_6 : w57.cell? ⟨gb450, 6, none⟩ = some (.int .u64 t447) := (blk_cell BK450.out 6).trans rfl; have hcz59_7 : w57.cell? ⟨gb450, 7, none⟩ = some (.int .i64 t448) := (blk_cell BK450.out 7).trans rfl; have hcz59_8 : w57.cell? ⟨gb450, 8, none⟩ = some (.int .i64 t449) := (blk_cell BK450.out 8).trans rfl; have hfz59_0 := blk_frozen BK450.out 0; have hfz59_1 := blk_frozen BK450.out 1; have hfz59_2 := blk_frozen BK450.out 2; have hfz59_3 := blk_frozen BK450.out 3; have hfz59_4 := blk_frozen BK450.out 4; have hfz59_5 := blk_frozen BK450.out 5; have hfz59_6 := blk_frozen BK450.out 6; have hfz59_7 := blk_frozen BK450.out 7; have hfz59_8 := blk_frozen BK450.out 8) | (go_at_call 25; (with_reducible refine (portreeveref04_May.calls kj8 t441 t442 t443 t444 t445 t446 t447 t448 t449 t452 _ A29.out).mono ?_); rintro e w60 ⟨rfl, hb⟩; have n0_ := Aside0.mk (blk_below (g := gb428) (o := .cells #[.int .u64 a0_0, .int .u64 a0_1, .int .i64 a0_2] 24 (0, 0)) (by (with_reducible repeat (first | refine qN ?_ _ | refine qD ?_ | refine qA ?_ _)); exact BK428.out) hb); have n1_ := Aside0.mk (blk_below (g := gb440) (o := .cells #[.int .i64 t431, .int .i64 t432, .int .i64 t433, .int .u32 t434, .string t435, .int .u64 t436, .int .u64 t437, .int .i64 t438, .int .i64 t439] 35 (0, 0)) (by (with_reducible repeat (first | refine qN ?_ _ | refine qD ?_ | refine qA ?_ _)); exact BK440.out) hb); have n2_ := Aside0.mk (blk_below (g := gb450) (o := .cells #[.int .i64 t441, .int .i64 t442, .int .i64 t443, .int .u32 t444, .string t445, .int .u64 t446, .int .u64 t447, .int .i64 t448, .int .i64 t449] 35 (0, 0)) (by (with_reducible repeat (first | refine qN ?_ _ | refine qD ?_ | refine qA ?_ _)); exact BK450.out) hb); have n3_ := Aside0.mk (below_step (by repeat (first | (with_reducible first | exact HB.out | apply pA | apply pN | apply pD | refine pS ?_ GE428.out | refine pS ?_ GE440.out | refine pS ?_ GE450.out) | exact HB.out)) hb); clear BK428; clear BK440; clear BK450; clear HB; have BK428 := n0_; have BK440 := n1_; have BK450 := n2_; have HB := n3_; clear n0_ n1_ n2_ n3_; (try clear hb); (try clear hb2); (try clear hk); (try clear hi); have hcz61_0 : w60.cell? ⟨gb440, 0, none⟩ = some (.int .i64 t431) := (blk_cell BK440.out 0).trans rfl; have hcz61_1 : w60.cell? ⟨gb440, 1, none⟩ = some (.int .i64 t432) := (blk_cell BK440.out 1).trans rfl; have hcz61_2 : w60.cell? ⟨gb440, 2, none⟩ = some (.int .i64 t433) := (blk_cell BK440.out 2).trans rfl; have hcz61_3 : w60.cell? ⟨gb440, 3, none⟩ = some (.int .u32 t434) := (blk_cell BK440.out 3).trans rfl; have hcz61_4 : w60.cell? ⟨gb440, 4, none⟩ = some (.string t435) := (blk_cell BK440.out 4).trans rfl; have hcz61_5 : w60.cell? ⟨gb440, 5, none⟩ = some (.int .u64 t436) := (blk_cell BK440.out 5).trans rfl; have hcz61_6 : w60.cell? ⟨gb440, 6, none⟩ = some (.int .u64 t437) := (blk_cell BK440.out 6).trans rfl; have hcz61_7 : w60.cell? ⟨gb440, 7, none⟩ = some (.int .i64 t438) := (blk_cell BK440.out 7).trans rfl; have hcz61_8 : w60.cell? ⟨gb440, 8, none⟩ = some (.int .i64 t439) := (blk_cell BK440.out 8).trans rfl; have hfz61_0 := blk_frozen BK440.out 0; have hfz61_1 := blk_frozen BK440.out 1; have hfz61_2 := blk_frozen BK440.out 2; have hfz61_3 := blk_frozen BK440.out 3; have hfz61_4 := blk_frozen BK440.out 4; have hfz61_5 := blk_frozen BK440.out 5; have hfz61_6 := blk_frozen BK440.out 6; have hfz61_7 := blk_frozen BK440.out 7; have hfz61_8 := blk_frozen BK440.out 8; have hcz62_0 : w60.cell? ⟨gb428, 0, none⟩ = some (.int .u64 a0_0) := (blk_cell BK428.out 0).trans rfl; have hcz62_1 : w60.cell? ⟨gb428, 1, none⟩ = some (.int .u64 a0_1) := (blk_cell BK428.out 1).trans rfl; have hcz62_2 : w60.cell? ⟨gb428, 2, none⟩ = some (.int .i64 a0_2) := (blk_cell BK428.out 2).trans rfl; have hfz62_0 := blk_frozen BK428.out 0; have hfz62_1 := blk_frozen BK428.out 1; have hfz62_2 := blk_frozen BK428.out 2; have hcz63_0 : w60.cell? ⟨gb450, 0, none⟩ = some (.int .i64 t441) := (blk_cell BK450.out 0).trans rfl; have hcz63_1 : w60.cell? ⟨gb450, 1, none⟩ = some (.int .i64 t442) := (blk_cell BK450.out 1).trans rfl; have hcz63_2 : w60.cell? ⟨gb450, 2, none⟩ = some (.int .i64 t443) := (blk_cell BK450.out 2).trans rfl; have hcz63_3 : w60.cell? ⟨gb450, 3, none⟩ = some (.int .u32 t444) := (blk_cell BK450.out 3).trans rfl; have hcz63_4 : w60.cell? ⟨gb450, 4, none⟩ = some (.string t445) := (blk_cell BK450.out 4).trans rfl; have hcz63_5 : w60.cell? ⟨gb450, 5, none⟩ = some (.int .u64 t446) := (blk_cell BK450.out 5).trans rfl; have hcz63_6 : w60.cell? ⟨gb450, 6, none⟩ = some (.int .u64 t447) := (blk_cell BK450.out 6).trans rfl; have hcz63_7 : w60.cell? ⟨gb450, 7, none⟩ = some (.int .i64 t448) := (blk_cell BK450.out 7).trans rfl; have hcz63_8 : w60.cell? ⟨gb450, 8, none⟩ = some (.int .i64 t449) := (blk_cell BK450.out 8).trans rfl; have hfz63_0 := blk_frozen BK450.out 0; have hfz63_1 := blk_frozen BK450.out 1; have hfz63_2 := blk_frozen BK450.out 2; have hfz63_3 := blk_frozen BK450.out 3; have hfz63_4 := blk_frozen BK450.out 4; have hfz63_5 := blk_frozen BK450.out 5; have hfz63_6 := blk_frozen BK450.out 6; have hfz63_7 := blk_frozen BK450.out 7; have hfz63_8 := blk_frozen BK450.out 8))
                            go_ret
                            exact ⟨by first | rfl | (simp [errW_none, errW_some] <;> rfl) | (simp [*, errW_none, errW_some] <;> rfl), by repeat (first | (with_reducible first | exact HB.out | apply pA | apply pN | apply pD | refine pS ?_ GE428.out | refine pS ?_ GE440.out | refine pS ?_ GE450.out) | exact HB.out)⟩
                          · rw [if_neg c53] at H
                            have c53b0 : (t432 == a1) = false := beq_eq_false_iff_ne.mpr c53
                            have c53b1 : (t432 != a1) = true := bne_iff_ne.mpr c53
                            exact absurd ((Option.some.inj H).trans hlaw_.out) (by decide)
                        · rw [if_neg c52] at H
                          have c52b0 : (t447 == a0_1) = false := beq_eq_false_iff_ne.mpr c52
                          have c52b1 : (t447 != a0_1) = true := bne_iff_ne.mpr c52
                          exact absurd ((Option.some.inj H).trans hlaw_.out) (by decide)
                      · rw [if_neg c51] at H
                        have c51b0 : (t446 == a0_0) = false := beq_eq_false_iff_ne.mpr c51
                        have c51b1 : (t446 != a0_0) = true := bne_iff_ne.mpr c51
                        exact absurd ((Option.some.inj H).trans hlaw_.out) (by decide)
                    · rw [if_neg c50] at H
                      have c50b0 : (t437 == a0_1) = false := beq_eq_false_iff_ne.mpr c50
                      have c50b1 : (t437 != a0_1) = true := bne_iff_ne.mpr c50
                      exact absurd ((Option.some.inj H).trans hlaw_.out) (by decide)
                  · rw [if_neg c49] at H
                    have c49b0 : (t436 == a0_0) = false := beq_eq_false_iff_ne.mpr c49
                    have c49b1 : (t436 != a0_0) = true := bne_iff_ne.mpr c49
                    exact absurd ((Option.some.inj H).trans hlaw_.out) (by decide)
                · rw [if_neg c48] at H
                  have c48b0 : (t452 == false) = false := by simpa using c48
                  (try (have c48b1 : decide (t452 = false) = false := by simpa using c48))
                  (try (have c48b2 : (t452 == false) = false := by simpa using c48))
                  (try (have c48b3 : ¬ (t452 = false) := by simpa using c48))
                  clear c48
                  exact absurd ((Option.some.inj H).trans hlaw_.out) (by decide)
            · replace c30 := Bool.eq_false_iff.mpr c30
              subst c30
              have H1 : (if (t452 == false) = true then (if t436 = a0_0 then (if t437 = a0_1 then (if t446 = a0_0 then (if t447 = a0_1 then (if t432 = a1 then (some (t442 == a1)) else (some false)) else (some false)) else (some false)) else (some false)) else (some false)) else (some false)) = some r := by rw [if_neg (show ¬ (false = true) by decide)] at H; exact H
              clear H
              have H := H1
              clear H1
              by_cases c64 : (t452 == false) = true
              · rw [if_pos c64] at H
                have c64b0 : (t452 == false) = true := c64
                (try (have c64b1 : decide (t452 = false) = true := by simpa using c64))
                (try (have c64b2 : (t452 == false) = true := by simpa using c64))
                clear c64
                by_cases c65 : t436 = a0_0
                · rw [if_pos c65] at H
                  have c65b0 : (t436 == a0_0) = true := beq_iff_eq.mpr c65
                  have c65b1 : (t436 != a0_0) = false := bne_eq_false_iff_eq.mpr c65
                  clear c65
                  by_cases c66 : t437 = a0_1
                  · rw [if_pos c66] at H
                    have c66b0 : (t437 == a0_1) = true := beq_iff_eq.mpr c66
                    have c66b1 : (t437 != a0_1) = false := bne_eq_false_iff_eq.mpr c66
                    clear c66
                    by_cases c67 : t446 = a0_0
                    · rw [if_pos c67] at H
                      have c67b0 : (t446 == a0_0) = true := beq_iff_eq.mpr c67
                      have c67b1 : (t446 != a0_0) = false := bne_eq_false_iff_eq.mpr c67
                      clear c67
                      by_cases c68 : t447 = a0_1
                      · rw [if_pos c68] at H
                        have c68b0 : (t447 == a0_1) = true := beq_iff_eq.mpr c68
                        have c68b1 : (t447 != a0_1) = false := bne_eq_false_iff_eq.mpr c68
                        clear c68
                        by_cases c69 : t432 = a1
                        · rw [if_pos c69] at H
                          have c69b0 : (t432 == a1) = true := beq_iff_eq.mpr c69
                          have c69b1 : (t432 != a1) = false := bne_eq_false_iff_eq.mpr c69
                          clear c69
                          clear hlaw_
                          obtain rfl := Option.some.inj H
                          have hnb70 := NB440_428.out
                          have hnc70 := NB428_440.out
                          have hnb71 := NB440_450.out
                          have hnc71 := NB450_440.out
                          have hcz72_0 : wc.cell? ⟨gb440, 0, none⟩ = some (.int .i64 t431) := (blk_cell BK440.out 0).trans rfl
                          have hcz72_1 : wc.cell? ⟨gb440, 1, none⟩ = some (.int .i64 t432) := (blk_cell BK440.out 1).trans rfl
                          have hcz72_2 : wc.cell? ⟨gb440, 2, none⟩ = some (.int .i64 t433) := (blk_cell BK440.out 2).trans rfl
                          have hcz72_3 : wc.cell? ⟨gb440, 3, none⟩ = some (.int .u32 t434) := (blk_cell BK440.out 3).trans rfl
                          have hcz72_4 : wc.cell? ⟨gb440, 4, none⟩ = some (.string t435) := (blk_cell BK440.out 4).trans rfl
                          have hcz72_5 : wc.cell? ⟨gb440, 5, none⟩ = some (.int .u64 t436) := (blk_cell BK440.out 5).trans rfl
                          have hcz72_6 : wc.cell? ⟨gb440, 6, none⟩ = some (.int .u64 t437) := (blk_cell BK440.out 6).trans rfl
                          have hcz72_7 : wc.cell? ⟨gb440, 7, none⟩ = some (.int .i64 t438) := (blk_cell BK440.out 7).trans rfl
                          have hcz72_8 : wc.cell? ⟨gb440, 8, none⟩ = some (.int .i64 t439) := (blk_cell BK440.out 8).trans rfl
                          have hfz72_0 := blk_frozen BK440.out 0
                          have hfz72_1 := blk_frozen BK440.out 1
                          have hfz72_2 := blk_frozen BK440.out 2
                          have hfz72_3 := blk_frozen BK440.out 3
                          have hfz72_4 := blk_frozen BK440.out 4
                          have hfz72_5 := blk_frozen BK440.out 5
                          have hfz72_6 := blk_frozen BK440.out 6
                          have hfz72_7 := blk_frozen BK440.out 7
                          have hfz72_8 := blk_frozen BK440.out 8
                          go_wp2_with (first | (go_at_call 25; (with_reducible refine (portreeveref04_May.calls kj8 t431 t432 t433 t434 t435 t436 t437 t438 t439 t451 _ A27.out).mono ?_); rintro e w73 ⟨rfl, hb⟩; have n0_ := Aside0.mk (blk_below (g := gb428) (o := .cells #[.int .u64 a0_0, .int .u64 a0_1, .int .i64 a0_2] 24 (0, 0)) (by (with_reducible repeat (first | refine qN ?_ _ | refine qD ?_ | refine qA ?_ _)); exact BK428.out) hb); have n1_ := Aside0.mk (blk_below (g := gb440) (o := .cells #[.int .i64 t431, .int .i64 t432, .int .i64 t433, .int .u32 t434, .string t435, .int .u64 t436, .int .u64 t437, .int .i64 t438, .int .i64 t439] 35 (0, 0)) (by (with_reducible repeat (first | refine qN ?_ _ | refine qD ?_ | refine qA ?_ _)); exact BK440.out) hb); have n2_ := Aside0.mk (blk_below (g := gb450) (o := .cells #[.int .i64 t441, .int .i64 t442, .int .i64 t443, .int .u32 t444, .string t445, .int .u64 t446, .int .u64 t447, .int .i64 t448, .int .i64 t449] 35 (0, 0)) (by (with_reducible repeat (first | refine qN ?_ _ | refine qD ?_ | refine qA ?_ _)); exact BK450.out) hb); have n3_ := Aside0.mk (below_step (by repeat (first | (with_reducible first | exact HB.out | apply pA | apply pN | apply pD | refine pS ?_ GE428.out | refine pS ?_ GE440.out | refine pS ?_ GE450.out) | exact HB.out)) hb); clear BK428; clear BK440; clear BK450; clear HB; have BK428 := n0_; have BK440 := n1_; have BK450 := n2_; have HB := n3_; clear n0_ n1_ n2_ n3_; (try clear hb); (try clear hb2); (try clear hk); (try clear hi); have hnb74 := NB450_428.out; have hnc74 := NB428_450.out; have hcz75_0 : w73.cell? ⟨gb450, 0, none⟩ = some (.int .i64 t441) := (blk_cell BK450.out 0).trans rfl; have hcz75_1 : w73.cell? ⟨gb450, 1, none⟩ = some (.int .i64 t442) := (blk_cell BK450.out 1).trans rfl; have hcz75_2 : w73.cell? ⟨gb450, 2, none⟩ = some (.int .i64 t443) := (blk_cell BK450.out 2).trans rfl; have hcz75_3 : w73.cell? ⟨gb450, 3, none⟩ = some (.int .u32 t444) := (blk_cell BK450.out 3).trans rfl; have hcz75_4 : w73.cell? ⟨gb450, 4, none⟩ = some (.string t445) := (blk_cell BK450.out 4).trans rfl; have hcz75_5 : w73.cell? ⟨gb450, 5, none⟩ = some (.int .u64 t446) := (blk_cell BK450.out 5).trans rfl; have hcz75_6 : w73.cell? ⟨gb450, 6, none⟩ = some (.int .u64 t447) := (blk_cell BK450.out 6).trans rfl; have hcz75_7 : w73.cell? ⟨gb450, 7, none⟩ = some (.int .i64 t448) := (blk_cell BK450.out 7).trans rfl; have hcz75_8 : w73.cell? ⟨gb450, 8, none⟩ = some (.int .i64 t449) := (blk_cell BK450.out 8).trans rfl; have hfz75_0 := blk_frozen BK450.out 0; have hfz75_1 := blk_frozen BK450.out 1; have hfz75_2 := blk_frozen BK450.out 2; have hfz75_3 := blk_frozen BK450.out 3; have hfz75_4 := blk_frozen BK450.out 4; have hfz75_5 := blk_frozen BK450.out 5; have hfz75_6 := blk_frozen BK450.out 6; have hfz75_7 := blk_frozen BK450.out 7; have hfz75_8 := blk_frozen BK450.out 8) | (go_at_call 25; (with_reducible refine (portreeveref04_May.calls kj8 t441 t442 t443 t444 t445 t446 t447 t448 t449 t452 _ A29.out).mono ?_); rintro e w76 ⟨rfl, hb⟩; have n0_ := Aside0.mk (blk_below (g := gb428) (o := .cells #[.int .u64 a0_0, .int .u64 a0_1, .int .i64 a0_2] 24 (0, 0)) (by (with_reducible repeat (first | refine qN ?_ _ | refine qD ?_ | refine qA ?_ _)); exact BK428.out) hb); have n1_ := Aside0.mk (blk_below (g := gb440) (o := .cells #[.int .i64 t431, .int .i64 t432, .int .i64 t433, .int .u32 t434, .string t435, .int .u64 t436, .int .u64 t437, .int .i64 t438, .int .i64 t439] 35 (0, 0)) (by (with_reducible repeat (first | refine qN ?_ _ | refine qD ?_ | refine qA ?_ _)); exact BK440.out) hb); have n2_ := Aside0.mk (blk_below (g := gb450) (o := .cells #[.int .i64 t441, .int .i64 t442, .int .i64 t443, .int .u32 t444, .string t445, .int .u64 t446, .int .u64 t447, .int .i64 t448, .int .i64 t449] 35 (0, 0)) (by (with_reducible repeat (first | refine qN ?_ _ | refine qD ?_ | refine qA ?_ _)); exact BK450.out) hb); have n3_ := Aside0.mk (below_step (by repeat (first | (with_reducible first | exact HB.out | apply pA | apply pN | apply pD | refine pS ?_ GE428.out | refine pS ?_ GE440.out | refine pS ?_ GE450.out) | exact HB.out)) hb); clear BK428; clear BK440; clear BK450; clear HB; have BK428 := n0_; have BK440 := n1_; have BK450 := n2_; have HB := n3_; clear n0_ n1_ n2_ n3_; (try clear hb); (try clear hb2); (try clear hk); (try clear hi); have hcz77_0 : w76.cell? ⟨gb440, 0, none⟩ = some (.int .i64 t431) := (blk_cell BK440.out 0).trans rfl; have hcz77_1 : w76.cell? ⟨gb440, 1, none⟩ = some (.int .i64 t432) := (blk_cell BK440.out 1).trans rfl; have hcz77_2 : w76.cell? ⟨gb440, 2, none⟩ = some (.int .i64 t433) := (blk_cell BK440.out 2).trans rfl; have hcz77_3 : w76.cell? ⟨gb440, 3, none⟩ = some (.int .u32 t434) := (blk_cell BK440.out 3).trans rfl; have hcz77_4 : w76.cell? ⟨gb440, 4, none⟩ = some (.string t435) := (blk_cell BK440.out 4).trans rfl; have hcz77_5 : w76.cell? ⟨gb440, 5, none⟩ = some (.int .u64 t436) := (blk_cell BK440.out 5).trans rfl; have hcz77_6 : w76.cell? ⟨gb440, 6, none⟩ = some (.int .u64 t437) := (blk_cell BK440.out 6).trans rfl; have hcz77_7 : w76.cell? ⟨gb440, 7, none⟩ = some (.int .i64 t438) := (blk_cell BK440.out 7).trans rfl; have hcz77_8 : w76.cell? ⟨gb440, 8, none⟩ = some (.int .i64 t439) := (blk_cell BK440.out 8).trans rfl; have hfz77_0 := blk_frozen BK440.out 0; have hfz77_1 := blk_frozen BK440.out 1; have hfz77_2 := blk_frozen BK440.out 2; have hfz77_3 := blk_frozen BK440.out 3; have hfz77_4 := blk_frozen BK440.out 4; have hfz77_5 := blk_frozen BK440.out 5; have hfz77_6 := blk_frozen BK440.out 6; have hfz77_7 := blk_frozen BK440.out 7; have hfz77_8 := blk_frozen BK440.out 8; have hcz78_0 : w76.cell? ⟨gb428, 0, none⟩ = some (.int .u64 a0_0) := (blk_cell BK428.out 0).trans rfl; have hcz78_1 : w76.cell? ⟨gb428, 1, none⟩ = some (.int .u64 a0_1) := (blk_cell BK428.out 1).trans rfl; have hcz78_2 : w76.cell? ⟨gb428, 2, none⟩ = some (.int .i64 a0_2) := (blk_cell BK428.out 2).trans rfl; have hfz78_0 := blk_frozen BK428.out 0; have hfz78_1 := blk_frozen BK428.out 1; have hfz78_2 := blk_frozen BK428.out 2; have hcz79_0 : w76.cell? ⟨gb450, 0, none⟩ = some (.int .i64 t441) := (blk_cell BK450.out 0).trans rfl; have hcz79_1 : w76.cell? ⟨gb450, 1, none⟩ = some (.int .i64 t442) := (blk_cell BK450.out 1).trans rfl; have hcz79_2 : w76.cell? ⟨gb450, 2, none⟩ = some (.int .i64 t443) := (blk_cell BK450.out 2).trans rfl; have hcz79_3 : w76.cell? ⟨gb450, 3, none⟩ = some (.int .u32 t444) := (blk_cell BK450.out 3).trans rfl; have hcz79_4 : w76.cell? ⟨gb450, 4, none⟩ = some (.string t445) := (blk_cell BK450.out 4).trans rfl; have hcz79_5 : w76.cell? ⟨gb450, 5, none⟩ = some (.int .u64 t446) := (blk_cell BK450.out 5).trans rfl; have hcz79_6 : w76.cell? ⟨gb450, 6, none⟩ = some (.int .u64 t447) := (blk_cell BK450.out 6).trans rfl; have hcz79_7 : w76.cell? ⟨gb450, 7, none⟩ = some (.int .i64 t448) := (blk_cell BK450.out 7).trans rfl; have hcz79_8 : w76.cell? ⟨gb450, 8, none⟩ = some (.int .i64 t449) := (blk_cell BK450.out 8).trans rfl; have hfz79_0 := blk_frozen BK450.out 0; have hfz79_1 := blk_frozen BK450.out 1; have hfz79_2 := blk_frozen BK450.out 2; have hfz79_3 := blk_frozen BK450.out 3; have hfz79_4 := blk_frozen BK450.out 4; have hfz79_5 := blk_frozen BK450.out 5; have hfz79_6 := blk_frozen BK450.out 6; have hfz79_7 := blk_frozen BK450.out 7; have hfz79_8 := blk_frozen BK450.out 8))
                          go_ret
                          exact ⟨by first | rfl | (simp [errW_none, errW_some] <;> rfl) | (simp [*, errW_none, errW_some] <;> rfl), by repeat (first | (with_reducible first | exact HB.out | apply pA | apply pN | apply pD | refine pS ?_ GE428.out | refine pS ?_ GE440.out | refine pS ?_ GE450.out) | exact HB.out)⟩
                        · rw [if_neg c69] at H
                          have c69b0 : (t432 == a1) = false := beq_eq_false_iff_ne.mpr c69
                          have c69b1 : (t432 != a1) = true := bne_iff_ne.mpr c69
                          exact absurd ((Option.some.inj H).trans hlaw_.out) (by decide)
                      · rw [if_neg c68] at H
                        have c68b0 : (t447 == a0_1) = false := beq_eq_false_iff_ne.mpr c68
                        have c68b1 : (t447 != a0_1) = true := bne_iff_ne.mpr c68
                        exact absurd ((Option.some.inj H).trans hlaw_.out) (by decide)
                    · rw [if_neg c67] at H
                      have c67b0 : (t446 == a0_0) = false := beq_eq_false_iff_ne.mpr c67
                      have c67b1 : (t446 != a0_0) = true := bne_iff_ne.mpr c67
                      exact absurd ((Option.some.inj H).trans hlaw_.out) (by decide)
                  · rw [if_neg c66] at H
                    have c66b0 : (t437 == a0_1) = false := beq_eq_false_iff_ne.mpr c66
                    have c66b1 : (t437 != a0_1) = true := bne_iff_ne.mpr c66
                    exact absurd ((Option.some.inj H).trans hlaw_.out) (by decide)
                · rw [if_neg c65] at H
                  have c65b0 : (t436 == a0_0) = false := beq_eq_false_iff_ne.mpr c65
                  have c65b1 : (t436 != a0_0) = true := bne_iff_ne.mpr c65
                  exact absurd ((Option.some.inj H).trans hlaw_.out) (by decide)
              · rw [if_neg c64] at H
                have c64b0 : (t452 == false) = false := by simpa using c64
                (try (have c64b1 : decide (t452 = false) = false := by simpa using c64))
                (try (have c64b2 : (t452 == false) = false := by simpa using c64))
                (try (have c64b3 : ¬ (t452 = false) := by simpa using c64))
                clear c64
                exact absurd ((Option.some.inj H).trans hlaw_.out) (by decide)
          · rw [if_neg c28] at H
            have c28b0 : (t451 == x10_8) = false := by simpa using c28
            (try (have c28b1 : decide (t451 = x10_8) = false := by simpa using c28))
            (try (have c28b2 : (t451 == x10_8) = false := by simpa using c28))
            (try (have c28b3 : ¬ (t451 = x10_8) := by simpa using c28))
            clear c28
            exact absurd ((Option.some.inj H).trans hlaw_.out) (by decide)
        · replace c26 := Bool.eq_false_iff.mpr c26
          subst c26
          have H1 : (some false) = some r := by rw [if_neg (show ¬ (false = true) by decide)] at H; exact H
          clear H
          have H := H1
          clear H1
          exact absurd ((Option.some.inj H).trans hlaw_.out) (by decide)
  · replace c6 := Bool.eq_false_iff.mpr c6
    subst c6
    have H1 : (some t429) = some r := by rw [if_neg (show ¬ (false = true) by decide)] at H; exact H
    clear H
    have H := H1
    clear H1
    clear hlaw_
    obtain rfl := Option.some.inj H
    go_enter Try.func8, Try.ntmps8
    go_wp2_with (first | ((with_reducible refine gate_dst (N := 3) rfl ?_); refine box_event ?hg (N := 3) ?hd (cs := #[.int .u64 a0_0, .int .u64 a0_1, .int .i64 a0_2]) (t := 24) ?hr ?_; (case hd => rfl); (case hg => rfl); (case hr => first | (go_simp; done) | (go_simp; rfl)); intro gb428 hg w80 hbox hb; have n0_ := Aside0.mk (below_step (by repeat (first | (with_reducible first | exact HB.out | apply pA | apply pN | apply pD) | exact HB.out)) hb); have n1_ := Aside0.mk (hbox); have n2_ := Aside0.mk ((by rw [hg]; exact (below_size (by repeat (first | (with_reducible first | exact HB.out | apply pA | apply pN | apply pD) | exact HB.out))) : w.heap.size ≤ gb428)); have n3_ := Aside0.mk ((by rw [hg]; exact (below_size (by repeat (first | (with_reducible first | exact HB.out | apply pA | apply pN | apply pD) | exact HB.out))) : w.heap.size ≤ gb428)); clear HB; have HB := n0_; have BK428 := n1_; have GW428 := n2_; have GE428 := n3_; clear n0_ n1_ n2_ n3_; clear hb hbox hg) | ((with_reducible refine gate_callee (f := 9) rfl ?_); refine goesL_ (some 11) rfl rfl Try.func9 (by kernel_rfl) rfl #[] rfl (by (try simp only [List.map_toArray, List.map_cons, List.map_nil]); first | done | rfl | (simp only [List.length_drop, List.length_take]; rfl)) ?_; (with_reducible refine (portreevelaw17_shown.calls k  t429 _ A4.out).mono ?_); rintro e w81 ⟨rfl, hb⟩; refine ⟨_, rfl, ?_⟩; have n0_ := Aside0.mk (blk_below (g := gb428) (o := .cells #[.int .u64 a0_0, .int .u64 a0_1, .int .i64 a0_2] 24 (0, 0)) (by (with_reducible repeat (first | refine qN ?_ _ | refine qD ?_ | refine qA ?_ _)); exact BK428.out) hb); have n1_ := Aside0.mk (below_step (by repeat (first | (with_reducible first | exact HB.out | apply pA | apply pN | apply pD | refine pS ?_ GE428.out) | exact HB.out)) hb); clear BK428; clear HB; have BK428 := n0_; have HB := n1_; clear n0_ n1_; (try clear hb); (try clear hb2); (try clear hk); (try clear hi); have hcz82_0 : w81.cell? ⟨gb428, 0, none⟩ = some (.int .u64 a0_0) := (blk_cell BK428.out 0).trans rfl; have hcz82_1 : w81.cell? ⟨gb428, 1, none⟩ = some (.int .u64 a0_1) := (blk_cell BK428.out 1).trans rfl; have hcz82_2 : w81.cell? ⟨gb428, 2, none⟩ = some (.int .i64 a0_2) := (blk_cell BK428.out 2).trans rfl; have hfz82_0 := blk_frozen BK428.out 0; have hfz82_1 := blk_frozen BK428.out 1; have hfz82_2 := blk_frozen BK428.out 2) | ((with_reducible refine gate_callee (f := 10) rfl ?_); refine goesL_ (some 13) rfl rfl Try.func10 (by kernel_rfl) rfl #[.agg #[.int .u64 a0_0, .int .u64 a0_1, .int .i64 a0_2]] rfl (by (try simp only [List.map_toArray, List.map_cons, List.map_nil]); first | done | rfl | (simp only [List.length_drop, List.length_take]; rfl)) ?_; (with_reducible refine (portreeveref17_Right.calls a0_0 a0_1 a0_2 false _ A5.out).mono ?_); rintro e w83 ⟨rfl, hb⟩; refine ⟨_, rfl, ?_⟩; have n0_ := Aside0.mk (blk_below (g := gb428) (o := .cells #[.int .u64 a0_0, .int .u64 a0_1, .int .i64 a0_2] 24 (0, 0)) (by (with_reducible repeat (first | refine qN ?_ _ | refine qD ?_ | refine qA ?_ _)); exact BK428.out) hb); have n1_ := Aside0.mk (below_step (by repeat (first | (with_reducible first | exact HB.out | apply pA | apply pN | apply pD | refine pS ?_ GE428.out) | exact HB.out)) hb); clear BK428; clear HB; have BK428 := n0_; have HB := n1_; clear n0_ n1_; (try clear hb); (try clear hb2); (try clear hk); (try clear hi)))
    go_ret
    exact ⟨by first | rfl | (simp [errW_none, errW_some] <;> rfl) | (simp [*, errW_none, errW_some] <;> rfl), by repeat (first | (with_reducible first | exact HB.out | apply pA | apply pN | apply pD | refine pS ?_ GE428.out) | exact HB.out)⟩

end Go.Proofs.Ytlimlbhhbjaljaa.Q

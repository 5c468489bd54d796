-- written by this session's own program (wip/tools/myprint.py), over the kit's print
import Derived.Test.YtlimlbhhbjaljaaQx0
import Derived.Test.YtlimlbhhbjaljaaQx1
import Derived.Test.YtlimlbhhbjaljaaQx3
import Derived.Test.YtlimlbhhbjaljaaQx4
namespace Go.Proofs.Ytlimlbhhbjaljaa.Q
open Go.RowKit Go.Proofs.YtlimlbhhbjaljaaW.PrintWords Go.Proofs.YtlimlbhhbjaljaaW.PrintLast Go.Proofs.YtlimlbhhbjaljaaW.PrintMore
open Go.Proofs.YtlimlbhhbjaljaaV
attribute [local go_sem] max2_int min2_int max_two min_two max_three min_three max_four min_four   -- for this text's walks alone
set_option linter.unusedVariables false
set_option linter.unusedSimpArgs false

attribute [local go_sem high] eqA24
/-! ### portreevelaw17_MeterTime: function 7 -/
def portreevelaw17_MeterTime.f (k : Nat) (a0_0 : Int) (a0_1 : Int) (a0_2 : Int) (a1 : Int) (a2 : Int) : Option (Bool) := (portreevelaw17_shown.f k).bind fun t410 => ((portreeveref17_Right.f a0_0 a0_1 a0_2).bind fun t411 => (if t411 = true then ((meter_Tick.f a0_0 a0_1 a0_2).bind fun bt412 => ((meter_Count.f a0_0 a0_1 a0_2 a1 a2).bind fun bt417 => ((meter_Tick.f bt417.1 bt417.2.1 bt417.2.2).bind fun bt420 => (if t410 = true then (if (bt412.2.2.2 == bt420.2.2.2) = true then (if bt412.2.2.1 = bt420.2.2.1 then ((meter_Count.f bt412.1 bt412.2.1 bt412.2.2.1 a1 a2).bind fun bt425 => (if (bt425.1 == bt420.1 && (bt425.2.1 == bt420.2.1 && (bt425.2.2 == bt420.2.2.1))) = true then (if bt412.1 = a0_0 then (if bt412.2.1 = a0_1 then (if bt412.2.2.2 = true then (if bt412.2.2.1 = 6 then (if a0_2 > 0 then (some true) else (some (bt412.1 == a0_0 && (bt412.2.1 == a0_1 && (bt412.2.2.1 == a0_2))))) else (some false)) else (if a0_2 > 0 then (some true) else (some (bt412.1 == a0_0 && (bt412.2.1 == a0_1 && (bt412.2.2.1 == a0_2)))))) else (some false)) else (some false)) else (some false))) else (some false)) else (some false)) else (some false))))) else (some t410)))
theorem portreevelaw17_MeterTime.mono : ∀ a0 a1 a2 a3 a4 k, LeO (portreevelaw17_MeterTime.f k a0 a1 a2 a3 a4) (portreevelaw17_MeterTime.f (k + 1) a0 a1 a2 a3 a4) := by
  intro a0 a1 a2 a3 a4 k
  unfold portreevelaw17_MeterTime.f
  repeat' first
      | (with_reducible exact portreevelaw17_shown.mono _)
      | (with_reducible exact LeO.refl _)
      | (with_reducible exact LeO.none _)
      | (with_reducible refine LeO.ite ?_ ?_)
      | (with_reducible refine LeO.bind ?_ (fun _ => ?_))
      | exact portreevelaw17_shown.mono _
      | exact LeO.none _
      | refine LeO.ite ?_ ?_
      | refine LeO.bind ?_ (fun _ => ?_)
def portreevelaw17_MeterTime.T6 : Bool × List (List Nat × List Nat) := (true, [([], []), ([0], [0]), ([1], [1]), ([1], [1]), ([2, 3, 1], [1, 2, 3]), ([1, 4], [1, 4]), ([5, 1], [5]), ([6], [6]), ([7, 6], [6, 7]), ([6], [6]), ([9, 6], [6, 9]), ([8, 10, 6], [6, 8, 10]), ([6, 11], [6, 11]), ([12, 6], [12]), ([13], [13]), ([13], [13]), ([13], [13]), ([14, 15, 16, 13, 13], [13, 14, 15, 16]), ([13], [13]), ([17, 18, 13], [13, 17, 18]), ([13, 19], [13, 19]), ([20, 17], [20]), ([21], [21]), ([22, 21], [21, 22]), ([21], [21]), ([24, 21], [21, 24]), ([23, 25, 21], [21, 23, 25]), ([21, 26], [21, 26]), ([27, 21], [27]), ([28], [28]), ([29, 28], [28, 29]), ([28], [28]), ([31, 28], [28, 31]), ([30, 32, 28], [28, 30, 32]), ([28, 33], [28, 33]), ([34, 28], [34]), ([35], [35]), ([36, 35], [35, 36]), ([37, 35, 35], [35, 37]), ([38], [38]), ([39, 38], [38, 39]), ([40, 38], [38, 40]), ([38, 41, 35], [35, 38, 41]), ([35, 42], [35, 42]), ([43, 38], [43]), ([44], [44]), ([45, 44], [44, 45]), ([46, 44], [44, 46]), ([47, 44, 44], [44, 47]), ([48], [48]), ([48], [48]), ([49, 50, 48], [48, 49, 50]), ([48, 51, 44], [44, 48, 51]), ([44, 52], [44, 52]), ([53, 48, 0, 1, 2, 3, 4, 5, 6, 7, 8, 9, 10, 11, 12, 13, 14, 15, 16, 17, 18, 19, 20, 21, 22, 23, 24, 25, 26, 27, 28, 29, 30, 31, 32, 33, 34, 35, 36, 37, 38, 39, 40, 41, 42, 43, 44, 45, 46, 47, 48, 49, 50, 51, 52, 53], [53])])
def portreevelaw17_MeterTime.B6 : List Nat := [0, 1, 3, 3, 15, 31, 63, 127, 255, 127, 639, 2047, 4095, 8191, 16383, 16383, 16383, 131071, 16383, 524287, 1048575, 2097151, 4194303, 8388607, 4194303, 20971519, 67108863, 134217727, 268435455, 536870911, 1073741823, 536870911, 2684354559, 8589934591, 17179869183, 34359738367, 68719476735, 137438953471, 274877906943, 549755813887, 1099511627775, 2199023255551, 4398046511103, 8796093022207, 17592186044415, 35184372088831, 70368744177663, 140737488355327, 281474976710655, 562949953421311, 562949953421311, 2251799813685247, 4503599627370495, 9007199254740991, 18014398509481983]
theorem portreevelaw17_MeterTime.tab6 : rtab .any (opsOf Try.f7 6) = portreevelaw17_MeterTime.T6 := by kernel_rfl
theorem portreevelaw17_MeterTime.bits6 : waitsOk portreevelaw17_MeterTime.T6.2 portreevelaw17_MeterTime.B6 = true := by kernel_rfl
set_option maxHeartbeats 8000000 in
set_option maxRecDepth 100000 in
theorem portreevelaw17_MeterTime.calls (k : Nat) (a0_0 : Int) (a0_1 : Int) (a0_2 : Int) (a1 : Int) (a2 : Int) (r : Bool) (w : World) (hlaw_ : Aside0 (r = true)) (h : portreevelaw17_MeterTime.f k a0_0 a0_1 a0_2 a1 a2 = some r) :
    Calls Try.prog 7 #[.agg #[.int .u64 a0_0, .int .u64 a0_1, .int .i64 a0_2], .int .i64 a1, .int .i64 a2] w fun e w' => e = .returned (.bool r) ∧ Below w.heap.size w w' := by
  have hu24 := Try.underlying24
  have HB := Aside0.mk (Below.refl w.heap.size w)
  have H : ((portreevelaw17_shown.f k).bind fun t410 => ((portreeveref17_Right.f a0_0 a0_1 a0_2).bind fun t411 => (if t411 = true then ((meter_Tick.f a0_0 a0_1 a0_2).bind fun bt412 => ((meter_Count.f a0_0 a0_1 a0_2 a1 a2).bind fun bt417 => ((meter_Tick.f bt417.1 bt417.2.1 bt417.2.2).bind fun bt420 => (if t410 = true then (if (bt412.2.2.2 == bt420.2.2.2) = true then (if bt412.2.2.1 = bt420.2.2.1 then ((meter_Count.f bt412.1 bt412.2.1 bt412.2.2.1 a1 a2).bind fun bt425 => (if (bt425.1 == bt420.1 && (bt425.2.1 == bt420.2.1 && (bt425.2.2 == bt420.2.2.1))) = true then (if bt412.1 = a0_0 then (if bt412.2.1 = a0_1 then (if bt412.2.2.2 = true then (if bt412.2.2.1 = 6 then (if a0_2 > 0 then (some true) else (some (bt412.1 == a0_0 && (bt412.2.1 == a0_1 && (bt412.2.2.1 == a0_2))))) else (some false)) else (if a0_2 > 0 then (some true) else (some (bt412.1 == a0_0 && (bt412.2.1 == a0_1 && (bt412.2.2.1 == a0_2)))))) else (some false)) else (some false)) else (some false))) else (some false)) else (some false)) else (some false))))) else (some t410)))) = some r := h
  clear h
  replace H := Option.bind_eq_some_iff.mp H
  obtain ⟨t410, A40, H⟩ := H
  replace H : ((portreeveref17_Right.f a0_0 a0_1 a0_2).bind fun t411 => (if t411 = true then ((meter_Tick.f a0_0 a0_1 a0_2).bind fun bt412 => ((meter_Count.f a0_0 a0_1 a0_2 a1 a2).bind fun bt417 => ((meter_Tick.f bt417.1 bt417.2.1 bt417.2.2).bind fun bt420 => (if t410 = true then (if (bt412.2.2.2 == bt420.2.2.2) = true then (if bt412.2.2.1 = bt420.2.2.1 then ((meter_Count.f bt412.1 bt412.2.1 bt412.2.2.1 a1 a2).bind fun bt425 => (if (bt425.1 == bt420.1 && (bt425.2.1 == bt420.2.1 && (bt425.2.2 == bt420.2.2.1))) = true then (if bt412.1 = a0_0 then (if bt412.2.1 = a0_1 then (if bt412.2.2.2 = true then (if bt412.2.2.1 = 6 then (if a0_2 > 0 then (some true) else (some (bt412.1 == a0_0 && (bt412.2.1 == a0_1 && (bt412.2.2.1 == a0_2))))) else (some false)) else (if a0_2 > 0 then (some true) else (some (bt412.1 == a0_0 && (bt412.2.1 == a0_1 && (bt412.2.2.1 == a0_2)))))) else (some false)) else (some false)) else (some false))) else (some false)) else (some false)) else (some false))))) else (some t410))) = some r := H
  have A4 := Aside0.mk A40
  clear A40
  replace H := Option.bind_eq_some_iff.mp H
  obtain ⟨t411, A50, H⟩ := H
  replace H : (if t411 = true then ((meter_Tick.f a0_0 a0_1 a0_2).bind fun bt412 => ((meter_Count.f a0_0 a0_1 a0_2 a1 a2).bind fun bt417 => ((meter_Tick.f bt417.1 bt417.2.1 bt417.2.2).bind fun bt420 => (if t410 = true then (if (bt412.2.2.2 == bt420.2.2.2) = true then (if bt412.2.2.1 = bt420.2.2.1 then ((meter_Count.f bt412.1 bt412.2.1 bt412.2.2.1 a1 a2).bind fun bt425 => (if (bt425.1 == bt420.1 && (bt425.2.1 == bt420.2.1 && (bt425.2.2 == bt420.2.2.1))) = true then (if bt412.1 = a0_0 then (if bt412.2.1 = a0_1 then (if bt412.2.2.2 = true then (if bt412.2.2.1 = 6 then (if a0_2 > 0 then (some true) else (some (bt412.1 == a0_0 && (bt412.2.1 == a0_1 && (bt412.2.2.1 == a0_2))))) else (some false)) else (if a0_2 > 0 then (some true) else (some (bt412.1 == a0_0 && (bt412.2.1 == a0_1 && (bt412.2.2.1 == a0_2)))))) else (some false)) else (some false)) else (some false))) else (some false)) else (some false)) else (some false))))) else (some t410)) = some r := H
  have A5 := Aside0.mk A50
  clear A50
  by_cases c6 : t411 = true
  · subst c6
    have H1 : ((meter_Tick.f a0_0 a0_1 a0_2).bind fun bt412 => ((meter_Count.f a0_0 a0_1 a0_2 a1 a2).bind fun bt417 => ((meter_Tick.f bt417.1 bt417.2.1 bt417.2.2).bind fun bt420 => (if t410 = true then (if (bt412.2.2.2 == bt420.2.2.2) = true then (if bt412.2.2.1 = bt420.2.2.1 then ((meter_Count.f bt412.1 bt412.2.1 bt412.2.2.1 a1 a2).bind fun bt425 => (if (bt425.1 == bt420.1 && (bt425.2.1 == bt420.2.1 && (bt425.2.2 == bt420.2.2.1))) = true then (if bt412.1 = a0_0 then (if bt412.2.1 = a0_1 then (if bt412.2.2.2 = true then (if bt412.2.2.1 = 6 then (if a0_2 > 0 then (some true) else (some (bt412.1 == a0_0 && (bt412.2.1 == a0_1 && (bt412.2.2.1 == a0_2))))) else (some false)) else (if a0_2 > 0 then (some true) else (some (bt412.1 == a0_0 && (bt412.2.1 == a0_1 && (bt412.2.2.1 == a0_2)))))) else (some false)) else (some false)) else (some false))) else (some false)) else (some false)) else (some false))))) = some r := by rw [if_pos rfl] at H; exact H
    clear H
    have H := H1
    clear H1
    replace H := Option.bind_eq_some_iff.mp H
    obtain ⟨⟨t412, t413, t414, t415⟩, A70, H⟩ := H
    replace H : ((meter_Count.f a0_0 a0_1 a0_2 a1 a2).bind fun bt417 => ((meter_Tick.f bt417.1 bt417.2.1 bt417.2.2).bind fun bt420 => (if t410 = true then (if (t415 == bt420.2.2.2) = true then (if t414 = bt420.2.2.1 then ((meter_Count.f t412 t413 t414 a1 a2).bind fun bt425 => (if (bt425.1 == bt420.1 && (bt425.2.1 == bt420.2.1 && (bt425.2.2 == bt420.2.2.1))) = true then (if t412 = a0_0 then (if t413 = a0_1 then (if t415 = true then (if t414 = 6 then (if a0_2 > 0 then (some true) else (some (t412 == a0_0 && (t413 == a0_1 && (t414 == a0_2))))) else (some false)) else (if a0_2 > 0 then (some true) else (some (t412 == a0_0 && (t413 == a0_1 && (t414 == a0_2)))))) else (some false)) else (some false)) else (some false))) else (some false)) else (some false)) else (some false)))) = some r := H
    have A7 := Aside0.mk A70
    clear A70
    replace H := Option.bind_eq_some_iff.mp H
    obtain ⟨⟨t417, t418, t419⟩, A80, H⟩ := H
    replace H : ((meter_Tick.f t417 t418 t419).bind fun bt420 => (if t410 = true then (if (t415 == bt420.2.2.2) = true then (if t414 = bt420.2.2.1 then ((meter_Count.f t412 t413 t414 a1 a2).bind fun bt425 => (if (bt425.1 == bt420.1 && (bt425.2.1 == bt420.2.1 && (bt425.2.2 == bt420.2.2.1))) = true then (if t412 = a0_0 then (if t413 = a0_1 then (if t415 = true then (if t414 = 6 then (if a0_2 > 0 then (some true) else (some (t412 == a0_0 && (t413 == a0_1 && (t414 == a0_2))))) else (some false)) else (if a0_2 > 0 then (some true) else (some (t412 == a0_0 && (t413 == a0_1 && (t414 == a0_2)))))) else (some false)) else (some false)) else (some false))) else (some false)) else (some false)) else (some false))) = some r := H
    have A8 := Aside0.mk A80
    clear A80
    replace H := Option.bind_eq_some_iff.mp H
    obtain ⟨⟨t420, t421, t422, t423⟩, A90, H⟩ := H
    replace H : (if t410 = true then (if (t415 == t423) = true then (if t414 = t422 then ((meter_Count.f t412 t413 t414 a1 a2).bind fun bt425 => (if (bt425.1 == t420 && (bt425.2.1 == t421 && (bt425.2.2 == t422))) = true then (if t412 = a0_0 then (if t413 = a0_1 then (if t415 = true then (if t414 = 6 then (if a0_2 > 0 then (some true) else (some (t412 == a0_0 && (t413 == a0_1 && (t414 == a0_2))))) else (some false)) else (if a0_2 > 0 then (some true) else (some (t412 == a0_0 && (t413 == a0_1 && (t414 == a0_2)))))) else (some false)) else (some false)) else (some false))) else (some false)) else (some false)) else (some false)) = some r := H
    have A9 := Aside0.mk A90
    clear A90
    by_cases c10 : t410 = true
    · subst c10
      have H1 : (if (t415 == t423) = true then (if t414 = t422 then ((meter_Count.f t412 t413 t414 a1 a2).bind fun bt425 => (if (bt425.1 == t420 && (bt425.2.1 == t421 && (bt425.2.2 == t422))) = true then (if t412 = a0_0 then (if t413 = a0_1 then (if t415 = true then (if t414 = 6 then (if a0_2 > 0 then (some true) else (some (t412 == a0_0 && (t413 == a0_1 && (t414 == a0_2))))) else (some false)) else (if a0_2 > 0 then (some true) else (some (t412 == a0_0 && (t413 == a0_1 && (t414 == a0_2)))))) else (some false)) else (some false)) else (some false))) else (some false)) else (some false)) = some r := by rw [if_pos rfl] at H; exact H
      clear H
      have H := H1
      clear H1
      by_cases c11 : (t415 == t423) = true
      · rw [if_pos c11] at H
        have c11b0 : (t415 == t423) = true := c11
        (try (have c11b1 : decide (t415 = t423) = true := by simpa using c11))
        (try (have c11b2 : (t415 == t423) = true := by simpa using c11))
        clear c11
        by_cases c12 : t414 = t422
        · rw [if_pos c12] at H
          have c12b0 : (t414 == t422) = true := beq_iff_eq.mpr c12
          have c12b1 : (t414 != t422) = false := bne_eq_false_iff_eq.mpr c12
          clear c12
          replace H := Option.bind_eq_some_iff.mp H
          obtain ⟨⟨t425, t426, t427⟩, A130, H⟩ := H
          replace H : (if (t425 == t420 && (t426 == t421 && (t427 == t422))) = true then (if t412 = a0_0 then (if t413 = a0_1 then (if t415 = true then (if t414 = 6 then (if a0_2 > 0 then (some true) else (some (t412 == a0_0 && (t413 == a0_1 && (t414 == a0_2))))) else (some false)) else (if a0_2 > 0 then (some true) else (some (t412 == a0_0 && (t413 == a0_1 && (t414 == a0_2)))))) else (some false)) else (some false)) else (some false)) = some r := H
          have A13 := Aside0.mk A130
          clear A130
          by_cases c14 : (t425 == t420 && (t426 == t421 && (t427 == t422))) = true
          · rw [if_pos c14] at H
            have c14b0 : (t425 == t420 && (t426 == t421 && (t427 == t422))) = true := c14
            (try (have c14b1 : decide (t425 = t420 && (t426 == t421 && (t427 == t422))) = true := by simpa using c14))
            (try (have c14b2 : (t425 == t420 && (t426 == t421 && (t427 == t422))) = true := by simpa using c14))
            clear c14
            by_cases c15 : t412 = a0_0
            · rw [if_pos c15] at H
              have c15b0 : (t412 == a0_0) = true := beq_iff_eq.mpr c15
              have c15b1 : (t412 != a0_0) = false := bne_eq_false_iff_eq.mpr c15
              clear c15
              by_cases c16 : t413 = a0_1
              · rw [if_pos c16] at H
                have c16b0 : (t413 == a0_1) = true := beq_iff_eq.mpr c16
                have c16b1 : (t413 != a0_1) = false := bne_eq_false_iff_eq.mpr c16
                clear c16
                by_cases c17 : t415 = true
                · subst c17
                  have H1 : (if t414 = 6 then (if a0_2 > 0 then (some true) else (some (t412 == a0_0 && (t413 == a0_1 && (t414 == a0_2))))) else (some false)) = some r := by rw [if_pos rfl] at H; exact H
                  clear H
                  have H := H1
                  clear H1
                  by_cases c18 : t414 = 6
                  · rw [if_pos c18] at H
                    have c18b0 : (t414 == 6) = true := beq_iff_eq.mpr c18
                    have c18b1 : (t414 != 6) = false := bne_eq_false_iff_eq.mpr c18
                    clear c18
                    by_cases c19 : a0_2 > 0
                    · rw [if_pos c19] at H
                      have c19b0 : decide (0 < a0_2) = true := decide_eq_true c19
                      clear c19
                      clear hlaw_
                      obtain rfl := Option.some.inj H
                      go_enter Try.func7, Try.ntmps7
                      try go_wp2_with (first | ((with_reducible refine gate_dst (N := 3) rfl ?_); refine box_event ?hg (N := 3) ?hd (cs := #[.int .u64 a0_0, .int .u64 a0_1, .int .i64 a0_2]) (t := 24) ?hr ?_; (case hd => rfl); (case hg => rfl); (case hr => first | (go_simp; done) | (go_simp; rfl)); intro gb409 hg w20 hbox hb; have n0_ := Aside0.mk (below_step (by repeat (first | (with_reducible first | exact HB.out | apply pA | apply pN | apply pD) | exact HB.out)) hb); have n1_ := Aside0.mk (hbox); have n2_ := Aside0.mk ((by rw [hg]; exact (below_size (by repeat (first | (with_reducible first | exact HB.out | apply pA | apply pN | apply pD) | exact HB.out))) : w.heap.size ≤ gb409)); have n3_ := Aside0.mk ((by rw [hg]; exact (below_size (by repeat (first | (with_reducible first | exact HB.out | apply pA | apply pN | apply pD) | exact HB.out))) : w.heap.size ≤ gb409)); clear HB; have HB := n0_; have BK409 := n1_; have GW409 := n2_; have GE409 := n3_; clear n0_ n1_ n2_ n3_; clear hb hbox hg) | ((with_reducible refine gate_callee (f := 9) rfl ?_); refine goesL_ (some 12) rfl rfl Try.func9 (by kernel_rfl) rfl #[] rfl (by (try simp only [List.map_toArray, List.map_cons, List.map_nil]); first | done | rfl | (simp only [List.length_drop, List.length_take]; rfl)) ?_; (with_reducible refine (portreevelaw17_shown.calls k  true _ A4.out).mono ?_); rintro e w21 ⟨rfl, hb⟩; refine ⟨_, rfl, ?_⟩; have n0_ := Aside0.mk (blk_below (g := gb409) (o := .cells #[.int .u64 a0_0, .int .u64 a0_1, .int .i64 a0_2] 24 (0, 0)) (by (with_reducible repeat (first | refine qN ?_ _ | refine qD ?_ | refine qA ?_ _)); exact BK409.out) hb); have n1_ := Aside0.mk (below_step (by repeat (first | (with_reducible first | exact HB.out | apply pA | apply pN | apply pD | refine pS ?_ GE409.out) | exact HB.out)) hb); clear BK409; clear HB; have BK409 := n0_; have HB := n1_; clear n0_ n1_; (try clear hb); (try clear hb2); (try clear hk); (try clear hi); have hcz22_0 : w21.cell? ⟨gb409, 0, none⟩ = some (.int .u64 a0_0) := (blk_cell BK409.out 0).trans rfl; have hcz22_1 : w21.cell? ⟨gb409, 1, none⟩ = some (.int .u64 a0_1) := (blk_cell BK409.out 1).trans rfl; have hcz22_2 : w21.cell? ⟨gb409, 2, none⟩ = some (.int .i64 a0_2) := (blk_cell BK409.out 2).trans rfl; have hfz22_0 := blk_frozen BK409.out 0; have hfz22_1 := blk_frozen BK409.out 1; have hfz22_2 := blk_frozen BK409.out 2) | ((with_reducible refine gate_callee (f := 10) rfl ?_); refine goesL_ (some 14) rfl rfl Try.func10 (by kernel_rfl) rfl #[.agg #[.int .u64 a0_0, .int .u64 a0_1, .int .i64 a0_2]] rfl (by (try simp only [List.map_toArray, List.map_cons, List.map_nil]); first | done | rfl | (simp only [List.length_drop, List.length_take]; rfl)) ?_; (with_reducible refine (portreeveref17_Right.calls a0_0 a0_1 a0_2 true _ A5.out).mono ?_); rintro e w23 ⟨rfl, hb⟩; refine ⟨_, rfl, ?_⟩; have n0_ := Aside0.mk (blk_below (g := gb409) (o := .cells #[.int .u64 a0_0, .int .u64 a0_1, .int .i64 a0_2] 24 (0, 0)) (by (with_reducible repeat (first | refine qN ?_ _ | refine qD ?_ | refine qA ?_ _)); exact BK409.out) hb); have n1_ := Aside0.mk (below_step (by repeat (first | (with_reducible first | exact HB.out | apply pA | apply pN | apply pD | refine pS ?_ GE409.out) | exact HB.out)) hb); clear BK409; clear HB; have BK409 := n0_; have HB := n1_; clear n0_ n1_; (try clear hb); (try clear hb2); (try clear hk); (try clear hi); have hcz24_0 : w23.cell? ⟨gb409, 0, none⟩ = some (.int .u64 a0_0) := (blk_cell BK409.out 0).trans rfl; have hcz24_1 : w23.cell? ⟨gb409, 1, none⟩ = some (.int .u64 a0_1) := (blk_cell BK409.out 1).trans rfl; have hcz24_2 : w23.cell? ⟨gb409, 2, none⟩ = some (.int .i64 a0_2) := (blk_cell BK409.out 2).trans rfl; have hfz24_0 := blk_frozen BK409.out 0; have hfz24_1 := blk_frozen BK409.out 1; have hfz24_2 := blk_frozen BK409.out 2) | ((with_reducible refine gate_callee (f := 14) rfl ?_); refine goesL_ (some 19) rfl rfl Try.func14 (by kernel_rfl) rfl #[.agg #[.int .u64 a0_0, .int .u64 a0_1, .int .i64 a0_2]] rfl (by (try simp only [List.map_toArray, List.map_cons, List.map_nil]); first | done | rfl | (simp only [List.length_drop, List.length_take]; rfl)) ?_; (with_reducible refine (meter_Tick.calls a0_0 a0_1 a0_2 t412 t413 t414 true _ A7.out).mono ?_); rintro e w25 ⟨rfl, hb⟩; refine ⟨_, rfl, ?_⟩; have n0_ := Aside0.mk (blk_below (g := gb409) (o := .cells #[.int .u64 a0_0, .int .u64 a0_1, .int .i64 a0_2] 24 (0, 0)) (by (with_reducible repeat (first | refine qN ?_ _ | refine qD ?_ | refine qA ?_ _)); exact BK409.out) hb); have n1_ := Aside0.mk (below_step (by repeat (first | (with_reducible first | exact HB.out | apply pA | apply pN | apply pD | refine pS ?_ GE409.out) | exact HB.out)) hb); clear BK409; clear HB; have BK409 := n0_; have HB := n1_; clear n0_ n1_; (try clear hb); (try clear hb2); (try clear hk); (try clear hi)) | ((with_reducible refine gate_dst (N := 8) rfl ?_); refine box_event ?hg (N := 8) ?hd (cs := #[.int .u64 0, .int .u64 0, .int .i64 0]) (t := 24) ?hr ?_; (case hd => rfl); (case hg => rfl); (case hr => first | (go_simp; done) | (go_simp; rfl)); intro gb416 hg w26 hbox hb; have n0_ := Aside0.mk (blk_below (g := gb409) (o := .cells #[.int .u64 a0_0, .int .u64 a0_1, .int .i64 a0_2] 24 (0, 0)) (by (with_reducible repeat (first | refine qN ?_ _ | refine qD ?_ | refine qA ?_ _)); exact BK409.out) hb); have n1_ := Aside0.mk (below_step (by repeat (first | (with_reducible first | exact HB.out | apply pA | apply pN | apply pD | refine pS ?_ GE409.out) | exact HB.out)) hb); have n2_ := Aside0.mk (hbox); have n3_ := Aside0.mk ((by rw [hg]; exact (below_size (by repeat (first | (with_reducible first | exact HB.out | apply pA | apply pN | apply pD | refine pS ?_ GE409.out) | exact HB.out))) : w.heap.size ≤ gb416)); have n4_ := Aside0.mk ((by rw [hg]; exact (below_size (by repeat (first | (with_reducible first | exact HB.out | apply pA | apply pN | apply pD | refine pS ?_ GE409.out) | exact HB.out))) : w.heap.size ≤ gb416)); have n5_ := Aside0.mk ((by rw [hg]; exact Nat.ne_of_lt (blk_lt (g := gb409) (o := .cells #[.int .u64 a0_0, .int .u64 a0_1, .int .i64 a0_2] 24 (0, 0)) (by (with_reducible repeat (first | refine qN ?_ _ | refine qD ?_ | refine qA ?_ _)); exact BK409.out)) : gb409 ≠ gb416)); have n6_ := Aside0.mk ((by rw [hg]; exact Nat.ne_of_gt (blk_lt (g := gb409) (o := .cells #[.int .u64 a0_0, .int .u64 a0_1, .int .i64 a0_2] 24 (0, 0)) (by (with_reducible repeat (first | refine qN ?_ _ | refine qD ?_ | refine qA ?_ _)); exact BK409.out)) : gb416 ≠ gb409)); clear BK409; clear HB; have BK409 := n0_; have HB := n1_; have BK416 := n2_; have GW416 := n3_; have GE416 := n4_; have NB409_416 := n5_; have NB416_409 := n6_; clear n0_ n1_ n2_ n3_ n4_ n5_ n6_; clear hb hbox hg; have hnb27 := NB416_409.out; have hnc27 := NB409_416.out; have hcz28_0 : w26.cell? ⟨gb416, 0, none⟩ = some (.int .u64 0) := (blk_cell BK416.out 0).trans rfl; have hcz28_1 : w26.cell? ⟨gb416, 1, none⟩ = some (.int .u64 0) := (blk_cell BK416.out 1).trans rfl; have hcz28_2 : w26.cell? ⟨gb416, 2, none⟩ = some (.int .i64 0) := (blk_cell BK416.out 2).trans rfl; have hfz28_0 := blk_frozen BK416.out 0; have hfz28_1 := blk_frozen BK416.out 1; have hfz28_2 := blk_frozen BK416.out 2; have hcz29_0 : w26.cell? ⟨gb409, 0, none⟩ = some (.int .u64 a0_0) := (blk_cell BK409.out 0).trans rfl; have hcz29_1 : w26.cell? ⟨gb409, 1, none⟩ = some (.int .u64 a0_1) := (blk_cell BK409.out 1).trans rfl; have hcz29_2 : w26.cell? ⟨gb409, 2, none⟩ = some (.int .i64 a0_2) := (blk_cell BK409.out 2).trans rfl; have hfz29_0 := blk_frozen BK409.out 0; have hfz29_1 := blk_frozen BK409.out 1; have hfz29_2 := blk_frozen BK409.out 2) | ((with_reducible refine gate_callee (f := 16) rfl ?_); refine goesL_ (some 26) rfl rfl Try.func16 (by kernel_rfl) rfl #[.agg #[.int .u64 a0_0, .int .u64 a0_1, .int .i64 a0_2], .int .i64 a1, .int .i64 a2] rfl (by (try simp only [List.map_toArray, List.map_cons, List.map_nil]); first | done | rfl | (simp only [List.length_drop, List.length_take]; rfl)) ?_; (with_reducible refine (meter_Count.calls a0_0 a0_1 a0_2 a1 a2 t417 t418 t419 _ A8.out).mono ?_); rintro e w30 ⟨rfl, hb⟩; refine ⟨_, rfl, ?_⟩; have n0_ := Aside0.mk (blk_below (g := gb409) (o := .cells #[.int .u64 a0_0, .int .u64 a0_1, .int .i64 a0_2] 24 (0, 0)) (by (with_reducible repeat (first | refine qN ?_ _ | refine qD ?_ | refine qA ?_ _)); refine blk_far ?_ NB409_416.out _; (with_reducible repeat (first | refine qN ?_ _ | refine qD ?_ | refine qA ?_ _)); refine blk_far ?_ NB409_416.out _; (with_reducible repeat (first | refine qN ?_ _ | refine qD ?_ | refine qA ?_ _)); refine blk_far ?_ NB409_416.out _; (with_reducible repeat (first | refine qN ?_ _ | refine qD ?_ | refine qA ?_ _)); exact BK409.out) hb); have n1_ := Aside0.mk (blk_below (g := gb416) (o := .cells #[.int .u64 t412, .int .u64 t413, .int .i64 t414] 24 (0, 0)) (by (with_reducible repeat (first | refine qN ?_ _ | refine qD ?_ | refine qA ?_ _)); refine blk_put (cs := #[.int .u64 t412, .int .u64 t413, .int .i64 0]) ?_ 2 _ rfl; (with_reducible repeat (first | refine qN ?_ _ | refine qD ?_ | refine qA ?_ _)); refine blk_put (cs := #[.int .u64 t412, .int .u64 0, .int .i64 0]) ?_ 1 _ rfl; (with_reducible repeat (first | refine qN ?_ _ | refine qD ?_ | refine qA ?_ _)); refine blk_put (cs := #[.int .u64 0, .int .u64 0, .int .i64 0]) ?_ 0 _ rfl; (with_reducible repeat (first | refine qN ?_ _ | refine qD ?_ | refine qA ?_ _)); exact BK416.out) hb); have n2_ := Aside0.mk (below_step (by repeat (first | (with_reducible first | exact HB.out | apply pA | apply pN | apply pD | refine pS ?_ GE409.out | refine pS ?_ GE416.out) | exact HB.out)) hb); clear BK409; clear BK416; clear HB; have BK409 := n0_; have BK416 := n1_; have HB := n2_; clear n0_ n1_ n2_; (try clear hb); (try clear hb2); (try clear hk); (try clear hi)) | ((with_reducible refine gate_callee (f := 14) rfl ?_); refine goesL_ (some 27) rfl rfl Try.func14 (by kernel_rfl) rfl #[.agg #[.int .u64 t417, .int .u64 t418, .int .i64 t419]] rfl (by (try simp only [List.map_toArray, List.map_cons, List.map_nil]); first | done | rfl | (simp only [List.length_drop, List.length_take]; rfl)) ?_; (with_reducible refine (meter_Tick.calls t417 t418 t419 t420 t421 t422 t423 _ A9.out).mono ?_); rintro e w31 ⟨rfl, hb⟩; refine ⟨_, rfl, ?_⟩; have n0_ := Aside0.mk (blk_below (g := gb409) (o := .cells #[.int .u64 a0_0, .int .u64 a0_1, .int .i64 a0_2] 24 (0, 0)) (by (with_reducible repeat (first | refine qN ?_ _ | refine qD ?_ | refine qA ?_ _)); exact BK409.out) hb); have n1_ := Aside0.mk (blk_below (g := gb416) (o := .cells #[.int .u64 t412, .int .u64 t413, .int .i64 t414] 24 (0, 0)) (by (with_reducible repeat (first | refine qN ?_ _ | refine qD ?_ | refine qA ?_ _)); exact BK416.out) hb); have n2_ := Aside0.mk (below_step (by repeat (first | (with_reducible first | exact HB.out | apply pA | apply pN | apply pD | refine pS ?_ GE409.out | refine pS ?_ GE416.out) | exact HB.out)) hb); clear BK409; clear BK416; clear HB; have BK409 := n0_; have BK416 := n1_; have HB := n2_; clear n0_ n1_ n2_; (try clear hb); (try clear hb2); (try clear hk); (try clear hi)) | ((with_reducible refine gate_dst (N := 10) rfl ?_); refine box_event ?hg (N := 10) ?hd (cs := #[.int .u64 0, .int .u64 0, .int .i64 0]) (t := 24) ?hr ?_; (case hd => rfl); (case hg => rfl); (case hr => first | (go_simp; done) | (go_simp; rfl)); intro gb424 hg w32 hbox hb; have n0_ := Aside0.mk (blk_below (g := gb409) (o := .cells #[.int .u64 a0_0, .int .u64 a0_1, .int .i64 a0_2] 24 (0, 0)) (by (with_reducible repeat (first | refine qN ?_ _ | refine qD ?_ | refine qA ?_ _)); exact BK409.out) hb); have n1_ := Aside0.mk (blk_below (g := gb416) (o := .cells #[.int .u64 t412, .int .u64 t413, .int .i64 t414] 24 (0, 0)) (by (with_reducible repeat (first | refine qN ?_ _ | refine qD ?_ | refine qA ?_ _)); exact BK416.out) hb); have n2_ := Aside0.mk (below_step (by repeat (first | (with_reducible first | exact HB.out | apply pA | apply pN | apply pD | refine pS ?_ GE409.out | refine pS ?_ GE416.out) | exact HB.out)) hb); have n3_ := Aside0.mk (hbox); have n4_ := Aside0.mk ((by rw [hg]; exact (below_size (by repeat (first | (with_reducible first | exact HB.out | apply pA | apply pN | apply pD | refine pS ?_ GE409.out | refine pS ?_ GE416.out) | exact HB.out))) : w.heap.size ≤ gb424)); have n5_ := Aside0.mk ((by rw [hg]; exact (below_size (by repeat (first | (with_reducible first | exact HB.out | apply pA | apply pN | apply pD | refine pS ?_ GE409.out | refine pS ?_ GE416.out) | exact HB.out))) : w.heap.size ≤ gb424)); have n6_ := Aside0.mk ((by rw [hg]; exact Nat.ne_of_lt (blk_lt (g := gb409) (o := .cells #[.int .u64 a0_0, .int .u64 a0_1, .int .i64 a0_2] 24 (0, 0)) (by (with_reducible repeat (first | refine qN ?_ _ | refine qD ?_ | refine qA ?_ _)); exact BK409.out)) : gb409 ≠ gb424)); have n7_ := Aside0.mk ((by rw [hg]; exact Nat.ne_of_gt (blk_lt (g := gb409) (o := .cells #[.int .u64 a0_0, .int .u64 a0_1, .int .i64 a0_2] 24 (0, 0)) (by (with_reducible repeat (first | refine qN ?_ _ | refine qD ?_ | refine qA ?_ _)); exact BK409.out)) : gb424 ≠ gb409)); have n8_ := Aside0.mk ((by rw [hg]; exact Nat.ne_of_lt (blk_lt (g := gb416) (o := .cells #[.int .u64 t412, .int .u64 t413, .int .i64 t414] 24 (0, 0)) (by (with_reducible repeat (first | refine qN ?_ _ | refine qD ?_ | refine qA ?_ _)); exact BK416.out)) : gb416 ≠ gb424)); have n9_ := Aside0.mk ((by rw [hg]; exact Nat.ne_of_gt (blk_lt (g := gb416) (o := .cells #[.int .u64 t412, .int .u64 t413, .int .i64 t414] 24 (0, 0)) (by (with_reducible repeat (first | refine qN ?_ _ | refine qD ?_ | refine qA ?_ _)); exact BK416.out)) : gb424 ≠ gb416)); clear BK409; clear BK416; clear HB; have BK409 := n0_; have BK416 := n1_; have HB := n2_; have BK424 := n3_; have GW424 := n4_; have GE424 := n5_; have NB409_424 := n6_; have NB424_409 := n7_; have NB416_424 := n8_; have NB424_416 := n9_; clear n0_ n1_ n2_ n3_ n4_ n5_ n6_ n7_ n8_ n9_; clear hb hbox hg; have hnb33 := NB424_409.out; have hnc33 := NB409_424.out; have hnb34 := NB424_416.out; have hnc34 := NB416_424.out; have hcz35_0 : w32.cell? ⟨gb424, 0, none⟩ = some (.int .u64 0) := (blk_cell BK424.out 0).trans rfl; have hcz35_1 : w32.cell? ⟨gb424, 1, none⟩ = some (.int .u64 0) := (blk_cell BK424.out 1).trans rfl; have hcz35_2 : w32.cell? ⟨gb424, 2, none⟩ = some (.int .i64 0) := (blk_cell BK424.out 2).trans rfl; have hfz35_0 := blk_frozen BK424.out 0; have hfz35_1 := blk_frozen BK424.out 1; have hfz35_2 := blk_frozen BK424.out 2))
                      have n0_ : Aside0 ((((w32.setCell ⟨gb424, 0, none⟩ (.int .u64 t420)).setCell ⟨gb424, 1, none⟩ (.int .u64 t421)).setCell ⟨gb424, 2, none⟩ (.int .i64 t422)).heap[gb409]? = some (.cells #[.int .u64 a0_0, .int .u64 a0_1, .int .i64 a0_2] 24 (0, 0))) := ⟨by (with_reducible repeat (first | refine qN ?_ _ | refine qD ?_ | refine qA ?_ _)); refine blk_far ?_ NB409_424.out _; (with_reducible repeat (first | refine qN ?_ _ | refine qD ?_ | refine qA ?_ _)); refine blk_far ?_ NB409_424.out _; (with_reducible repeat (first | refine qN ?_ _ | refine qD ?_ | refine qA ?_ _)); refine blk_far ?_ NB409_424.out _; (with_reducible repeat (first | refine qN ?_ _ | refine qD ?_ | refine qA ?_ _)); exact BK409.out⟩
                      have n1_ : Aside0 ((((w32.setCell ⟨gb424, 0, none⟩ (.int .u64 t420)).setCell ⟨gb424, 1, none⟩ (.int .u64 t421)).setCell ⟨gb424, 2, none⟩ (.int .i64 t422)).heap[gb416]? = some (.cells #[.int .u64 t412, .int .u64 t413, .int .i64 t414] 24 (0, 0))) := ⟨by (with_reducible repeat (first | refine qN ?_ _ | refine qD ?_ | refine qA ?_ _)); refine blk_far ?_ NB416_424.out _; (with_reducible repeat (first | refine qN ?_ _ | refine qD ?_ | refine qA ?_ _)); refine blk_far ?_ NB416_424.out _; (with_reducible repeat (first | refine qN ?_ _ | refine qD ?_ | refine qA ?_ _)); refine blk_far ?_ NB416_424.out _; (with_reducible repeat (first | refine qN ?_ _ | refine qD ?_ | refine qA ?_ _)); exact BK416.out⟩
                      have n2_ : Aside0 ((((w32.setCell ⟨gb424, 0, none⟩ (.int .u64 t420)).setCell ⟨gb424, 1, none⟩ (.int .u64 t421)).setCell ⟨gb424, 2, none⟩ (.int .i64 t422)).heap[gb424]? = some (.cells #[.int .u64 t420, .int .u64 t421, .int .i64 t422] 24 (0, 0))) := ⟨by (with_reducible repeat (first | refine qN ?_ _ | refine qD ?_ | refine qA ?_ _)); refine blk_put (cs := #[.int .u64 t420, .int .u64 t421, .int .i64 0]) ?_ 2 _ rfl; (with_reducible repeat (first | refine qN ?_ _ | refine qD ?_ | refine qA ?_ _)); refine blk_put (cs := #[.int .u64 t420, .int .u64 0, .int .i64 0]) ?_ 1 _ rfl; (with_reducible repeat (first | refine qN ?_ _ | refine qD ?_ | refine qA ?_ _)); refine blk_put (cs := #[.int .u64 0, .int .u64 0, .int .i64 0]) ?_ 0 _ rfl; (with_reducible repeat (first | refine qN ?_ _ | refine qD ?_ | refine qA ?_ _)); exact BK424.out⟩
                      have n3_ : Aside0 (Below w.heap.size w (((w32.setCell ⟨gb424, 0, none⟩ (.int .u64 t420)).setCell ⟨gb424, 1, none⟩ (.int .u64 t421)).setCell ⟨gb424, 2, none⟩ (.int .i64 t422))) := ⟨by repeat (first | (with_reducible first | exact HB.out | apply pA | apply pN | apply pD | refine pS ?_ GE409.out | refine pS ?_ GE416.out | refine pS ?_ GE424.out) | exact HB.out)⟩
                      (try clear BK409)
                      (try clear BK416)
                      (try clear BK424)
                      (try clear HB)
                      generalize (((w32.setCell ⟨gb424, 0, none⟩ (.int .u64 t420)).setCell ⟨gb424, 1, none⟩ (.int .u64 t421)).setCell ⟨gb424, 2, none⟩ (.int .i64 t422)) = w36 at n0_ n1_ n2_ n3_ ⊢
                      have BK409 := n0_
                      have BK416 := n1_
                      have BK424 := n2_
                      have HB := n3_
                      clear n0_ n1_ n2_ n3_
                      have n0_ := Aside0.mk (qD BK409.out)
                      have n1_ := Aside0.mk (qD BK416.out)
                      have n2_ := Aside0.mk (qD BK424.out)
                      have n3_ := Aside0.mk (pD HB.out)
                      clear BK409
                      clear BK416
                      clear BK424
                      clear HB
                      have BK409 := n0_
                      have BK416 := n1_
                      have BK424 := n2_
                      have HB := n3_
                      clear n0_ n1_ n2_ n3_
                      refine start_ (n := 55) (S := fun w' => w'.cell? ⟨gb416, 0, none⟩ = some (.int .u64 t412) ∧ w'.cell? ⟨gb416, 1, none⟩ = some (.int .u64 t413) ∧ w'.cell? ⟨gb416, 2, none⟩ = some (.int .i64 t414) ∧ w'.cell? ⟨gb424, 0, none⟩ = some (.int .u64 t420) ∧ w'.cell? ⟨gb424, 1, none⟩ = some (.int .u64 t421) ∧ w'.cell? ⟨gb424, 2, none⟩ = some (.int .i64 t422) ∧ w'.cell? ⟨gb409, 0, none⟩ = some (.int .u64 a0_0) ∧ w'.cell? ⟨gb409, 1, none⟩ = some (.int .u64 a0_1) ∧ w'.cell? ⟨gb409, 2, none⟩ = some (.int .i64 a0_2)) (ds := []) #[oO, oO, oO, oO, oO, oO, oO, oO, oO, oO, oO, oO, oO, oO, oO, oO, oO, oO, oO, oO, oO, oO, oO, oO, oO, oO, oO, oO, oO, oO, oO, oO, oO, oO, oO, oO, oO, oO, oO, oO, oO, oO, oO, oO, oO, oO, oO, oO, oO, oO, oO, oO, oO, oO, oO] (by kernel_rfl) rfl rfl ⟨(blk_cell BK416.out 0).trans rfl, (blk_cell BK416.out 1).trans rfl, (blk_cell BK416.out 2).trans rfl, (blk_cell BK424.out 0).trans rfl, (blk_cell BK424.out 1).trans rfl, (blk_cell BK424.out 2).trans rfl, (blk_cell BK409.out 0).trans rfl, (blk_cell BK409.out 1).trans rfl, (blk_cell BK409.out 2).trans rfl⟩ (fun hHeld => ?_); refine with_tabW portreevelaw17_MeterTime.tab6 portreevelaw17_MeterTime.bits6 (fun HT_ HW_ => ?_)
                      generalize w36.drew = w37 at BK409 BK416 BK424 HB hHeld ⊢
                      refine pure_ (i := 0) (N := some 30) (v := ?_) (a' := ?_) #[oI, oO, oO, oO, oO, oO, oO, oO, oO, oO, oO, oO, oO, oO, oO, oO, oO, oO, oO, oO, oO, oO, oO, oO, oO, oO, oO, oO, oO, oO, oO, oO, oO, oO, oO, oO, oO, oO, oO, oO, oO, oO, oO, oO, oO, oO, oO, oO, oO, oO, oO, oO, oO, oO, oO] rfl rfl (any_of HT_.out (by kernel_rfl)) (fun _ _ _ h => h) (Or.inl ⟨by rfl, ?_⟩) ?_ ?_
                      rotate_left
                      · intro w'
                        go_simp
                        with_reducible rfl
                      rotate_left
                      · simp only [Act.put, List.setIfInBounds_toArray, List.set_cons_zero, List.set_cons_succ, i64_w, i32_w]
                        rfl
                      refine pure_ (i := 1) (N := some 31) (v := ?_) (a' := ?_) #[oI, oI, oO, oO, oO, oO, oO, oO, oO, oO, oO, oO, oO, oO, oO, oO, oO, oO, oO, oO, oO, oO, oO, oO, oO, oO, oO, oO, oO, oO, oO, oO, oO, oO, oO, oO, oO, oO, oO, oO, oO, oO, oO, oO, oO, oO, oO, oO, oO, oO, oO, oO, oO, oO, oO] rfl rfl (any_of HT_.out (by kernel_rfl)) (fun _ _ _ h => h) (Or.inl ⟨by rfl, ?_⟩) ?_ ?_
                      rotate_left
                      · intro w'
                        go_simp
                        with_reducible rfl
                      rotate_left
                      · simp only [Act.put, List.setIfInBounds_toArray, List.set_cons_zero, List.set_cons_succ, i64_w, i32_w]
                        rfl
                      refine pure_ (i := 2) (N := some 32) (v := ?_) (a' := ?_) #[oI, oI, oI, oO, oO, oO, oO, oO, oO, oO, oO, oO, oO, oO, oO, oO, oO, oO, oO, oO, oO, oO, oO, oO, oO, oO, oO, oO, oO, oO, oO, oO, oO, oO, oO, oO, oO, oO, oO, oO, oO, oO, oO, oO, oO, oO, oO, oO, oO, oO, oO, oO, oO, oO, oO] rfl rfl (any_of HT_.out (by kernel_rfl)) (fun _ _ _ h => h) (Or.inl ⟨by rfl, ?_⟩) ?_ ?_
                      rotate_left
                      · intro w'
                        go_simp
                        with_reducible rfl
                      rotate_left
                      · simp only [Act.put, List.setIfInBounds_toArray, List.set_cons_zero, List.set_cons_succ, i64_w, i32_w]
                        rfl
                      refine pure_ (i := 3) (N := some 33) (v := ?_) (a' := ?_) #[oI, oI, oI, oI, oO, oO, oO, oO, oO, oO, oO, oO, oO, oO, oO, oO, oO, oO, oO, oO, oO, oO, oO, oO, oO, oO, oO, oO, oO, oO, oO, oO, oO, oO, oO, oO, oO, oO, oO, oO, oO, oO, oO, oO, oO, oO, oO, oO, oO, oO, oO, oO, oO, oO, oO] rfl rfl (any_of HT_.out (by kernel_rfl)) (fun _ _ _ h => h) (Or.inl ⟨by rfl, ?_⟩) ?_ ?_
                      rotate_left
                      · intro w'
                        go_simp
                        with_reducible rfl
                      rotate_left
                      · simp only [Act.put, List.setIfInBounds_toArray, List.set_cons_zero, List.set_cons_succ, i64_w, i32_w]
                        rfl
                      refine pure_ (i := 4) (N := some 34) (v := ?_) (a' := ?_) #[oI, oI, oI, oI, oI, oO, oO, oO, oO, oO, oO, oO, oO, oO, oO, oO, oO, oO, oO, oO, oO, oO, oO, oO, oO, oO, oO, oO, oO, oO, oO, oO, oO, oO, oO, oO, oO, oO, oO, oO, oO, oO, oO, oO, oO, oO, oO, oO, oO, oO, oO, oO, oO, oO, oO] rfl rfl (any_of HT_.out (by kernel_rfl)) (fun _ _ _ h => h) (Or.inl ⟨by rfl, ?_⟩) ?_ ?_
                      rotate_left
                      · intro w'
                        go_simp
                        with_reducible rfl
                      rotate_left
                      · simp only [Act.put, List.setIfInBounds_toArray, List.set_cons_zero, List.set_cons_succ, i64_w, i32_w]
                        rfl
                      refine pure_ (i := 5) (N := some 35) (v := ?_) (a' := ?_) #[oI, oI, oI, oI, oI, oI, oO, oO, oO, oO, oO, oO, oO, oO, oO, oO, oO, oO, oO, oO, oO, oO, oO, oO, oO, oO, oO, oO, oO, oO, oO, oO, oO, oO, oO, oO, oO, oO, oO, oO, oO, oO, oO, oO, oO, oO, oO, oO, oO, oO, oO, oO, oO, oO, oO] rfl rfl (any_of HT_.out (by kernel_rfl)) (fun _ _ _ h => h) (Or.inl ⟨by rfl, ?_⟩) ?_ ?_
                      rotate_left
                      · intro w'
                        go_simp
                        with_reducible rfl
                      rotate_left
                      · simp only [Act.put, List.setIfInBounds_toArray, List.set_cons_zero, List.set_cons_succ, i64_w, i32_w]
                        rfl
                      refine pure_ (i := 6) (N := some 36) (v := ?_) (a' := ?_) #[oI, oI, oI, oI, oI, oI, oI, oO, oO, oO, oO, oO, oO, oO, oO, oO, oO, oO, oO, oO, oO, oO, oO, oO, oO, oO, oO, oO, oO, oO, oO, oO, oO, oO, oO, oO, oO, oO, oO, oO, oO, oO, oO, oO, oO, oO, oO, oO, oO, oO, oO, oO, oO, oO, oO] rfl rfl (any_of HT_.out (by kernel_rfl)) (fun _ _ _ h => h) (Or.inl ⟨by rfl, ?_⟩) ?_ ?_
                      rotate_left
                      · intro w'
                        go_simp
                        with_reducible rfl
                      rotate_left
                      · simp only [Act.put, List.setIfInBounds_toArray, List.set_cons_zero, List.set_cons_succ, i64_w, i32_w]
                        rfl
                      refine pure_ (i := 7) (N := some 37) (v := ?_) (a' := ?_) #[oI, oI, oI, oI, oI, oI, oI, oI, oO, oO, oO, oO, oO, oO, oO, oO, oO, oO, oO, oO, oO, oO, oO, oO, oO, oO, oO, oO, oO, oO, oO, oO, oO, oO, oO, oO, oO, oO, oO, oO, oO, oO, oO, oO, oO, oO, oO, oO, oO, oO, oO, oO, oO, oO, oO] rfl rfl (any_of HT_.out (by kernel_rfl)) (fun _ _ _ h => h) (Or.inl ⟨by rfl, ?_⟩) ?_ ?_
                      rotate_left
                      · intro w'
                        go_simp
                        with_reducible rfl
                      rotate_left
                      · simp only [Act.put, List.setIfInBounds_toArray, List.set_cons_zero, List.set_cons_succ, i64_w, i32_w]
                        rfl
                      refine pure_ (i := 9) (N := some 39) (v := ?_) (a' := ?_) #[oI, oI, oI, oI, oI, oI, oI, oI, oO, oI, oO, oO, oO, oO, oO, oO, oO, oO, oO, oO, oO, oO, oO, oO, oO, oO, oO, oO, oO, oO, oO, oO, oO, oO, oO, oO, oO, oO, oO, oO, oO, oO, oO, oO, oO, oO, oO, oO, oO, oO, oO, oO, oO, oO, oO] rfl rfl (any_of HT_.out (by kernel_rfl)) (fun _ _ _ h => h) (Or.inl ⟨by rfl, ?_⟩) ?_ ?_
                      rotate_left
                      · intro w'
                        go_simp
                        with_reducible rfl
                      rotate_left
                      · simp only [Act.put, List.setIfInBounds_toArray, List.set_cons_zero, List.set_cons_succ, i64_w, i32_w]
                        rfl
                      refine take_ (i := 8) (N := some 38) (v := ?_) (a' := ?_) #[oI, oI, oI, oI, oI, oI, oI, oI, oI, oI, oO, oO, oO, oO, oO, oO, oO, oO, oO, oO, oO, oO, oO, oO, oO, oO, oO, oO, oO, oO, oO, oO, oO, oO, oO, oO, oO, oO, oO, oO, oO, oO, oO, oO, oO, oO, oO, oO, oO, oO, oO, oO, oO, oO, oO] rfl rfl (take_ofW HT_.out HW_.out (by kernel_rfl)) (fun _ _ _ h => h) (Or.inl ⟨by rfl, ?_⟩) hHeld ?_ ?_
                      rotate_left
                      · rintro w' ⟨s0, s1, s2, s3, s4, s5, s6, s7, s8⟩
                        go_simp
                        with_reducible rfl
                      rotate_left
                      · simp only [Act.put, List.setIfInBounds_toArray, List.set_cons_zero, List.set_cons_succ, i64_w, i32_w]
                        rfl
                      refine take_ (i := 10) (N := some 40) (v := ?_) (a' := ?_) #[oI, oI, oI, oI, oI, oI, oI, oI, oI, oI, oI, oO, oO, oO, oO, oO, oO, oO, oO, oO, oO, oO, oO, oO, oO, oO, oO, oO, oO, oO, oO, oO, oO, oO, oO, oO, oO, oO, oO, oO, oO, oO, oO, oO, oO, oO, oO, oO, oO, oO, oO, oO, oO, oO, oO] rfl rfl (take_ofW HT_.out HW_.out (by kernel_rfl)) (fun _ _ _ h => h) (Or.inl ⟨by rfl, ?_⟩) hHeld ?_ ?_
                      rotate_left
                      · rintro w' ⟨s0, s1, s2, s3, s4, s5, s6, s7, s8⟩
                        go_simp
                        with_reducible rfl
                      rotate_left
                      · simp only [Act.put, List.setIfInBounds_toArray, List.set_cons_zero, List.set_cons_succ, i64_w, i32_w]
                        rfl
                      refine pure_ (i := 11) (N := some 41) (v := ?_) (a' := ?_) #[oI, oI, oI, oI, oI, oI, oI, oI, oI, oI, oI, oI, oO, oO, oO, oO, oO, oO, oO, oO, oO, oO, oO, oO, oO, oO, oO, oO, oO, oO, oO, oO, oO, oO, oO, oO, oO, oO, oO, oO, oO, oO, oO, oO, oO, oO, oO, oO, oO, oO, oO, oO, oO, oO, oO] rfl rfl (any_of HT_.out (by kernel_rfl)) (fun _ _ _ h => h) (Or.inl ⟨by rfl, ?_⟩) ?_ ?_
                      rotate_left
                      · intro w'
                        go_simp
                        with_reducible rfl
                      rotate_left
                      · simp only [Act.put, List.setIfInBounds_toArray, List.set_cons_zero, List.set_cons_succ, i64_w, i32_w]
                        rfl
                      refine pure_ (i := 12) (N := some 42) (v := ?_) (a' := ?_) #[oI, oI, oI, oI, oI, oI, oI, oI, oI, oI, oI, oI, oI, oO, oO, oO, oO, oO, oO, oO, oO, oO, oO, oO, oO, oO, oO, oO, oO, oO, oO, oO, oO, oO, oO, oO, oO, oO, oO, oO, oO, oO, oO, oO, oO, oO, oO, oO, oO, oO, oO, oO, oO, oO, oO] rfl rfl (any_of HT_.out (by kernel_rfl)) (fun _ _ _ h => h) (Or.inl ⟨by rfl, ?_⟩) ?_ ?_
                      rotate_left
                      · intro w'
                        go_simp
                        with_reducible rfl
                      rotate_left
                      · simp only [Act.put, List.setIfInBounds_toArray, List.set_cons_zero, List.set_cons_succ, i64_w, i32_w]
                        rfl
                      refine pure_ (i := 13) (N := some 43) (v := ?_) (a' := ?_) #[oI, oI, oI, oI, oI, oI, oI, oI, oI, oI, oI, oI, oI, oI, oO, oO, oO, oO, oO, oO, oO, oO, oO, oO, oO, oO, oO, oO, oO, oO, oO, oO, oO, oO, oO, oO, oO, oO, oO, oO, oO, oO, oO, oO, oO, oO, oO, oO, oO, oO, oO, oO, oO, oO, oO] rfl rfl (any_of HT_.out (by kernel_rfl)) (fun _ _ _ h => h) (Or.inl ⟨by rfl, ?_⟩) ?_ ?_
                      rotate_left
                      · intro w'
                        go_simp
                        with_reducible rfl
                      rotate_left
                      · simp only [Act.put, List.setIfInBounds_toArray, List.set_cons_zero, List.set_cons_succ, i64_w, i32_w]
                        rfl
                      refine pure_ (i := 15) (N := some 45) (v := ?_) (a' := ?_) #[oI, oI, oI, oI, oI, oI, oI, oI, oI, oI, oI, oI, oI, oI, oO, oI, oO, oO, oO, oO, oO, oO, oO, oO, oO, oO, oO, oO, oO, oO, oO, oO, oO, oO, oO, oO, oO, oO, oO, oO, oO, oO, oO, oO, oO, oO, oO, oO, oO, oO, oO, oO, oO, oO, oO] rfl rfl (any_of HT_.out (by kernel_rfl)) (fun _ _ _ h => h) (Or.inl ⟨by rfl, ?_⟩) ?_ ?_
                      rotate_left
                      · intro w'
                        go_simp
                        with_reducible rfl
                      rotate_left
                      · simp only [Act.put, List.setIfInBounds_toArray, List.set_cons_zero, List.set_cons_succ, i64_w, i32_w]
                        rfl
                      refine pure_ (i := 16) (N := some 46) (v := ?_) (a' := ?_) #[oI, oI, oI, oI, oI, oI, oI, oI, oI, oI, oI, oI, oI, oI, oO, oI, oI, oO, oO, oO, oO, oO, oO, oO, oO, oO, oO, oO, oO, oO, oO, oO, oO, oO, oO, oO, oO, oO, oO, oO, oO, oO, oO, oO, oO, oO, oO, oO, oO, oO, oO, oO, oO, oO, oO] rfl rfl (any_of HT_.out (by kernel_rfl)) (fun _ _ _ h => h) (Or.inl ⟨by rfl, ?_⟩) ?_ ?_
                      rotate_left
                      · intro w'
                        go_simp
                        with_reducible rfl
                      rotate_left
                      · simp only [Act.put, List.setIfInBounds_toArray, List.set_cons_zero, List.set_cons_succ, i64_w, i32_w]
                        rfl
                      refine take_ (i := 14) (N := some 44) (v := ?_) (a' := ?_) #[oI, oI, oI, oI, oI, oI, oI, oI, oI, oI, oI, oI, oI, oI, oI, oI, oI, oO, oO, oO, oO, oO, oO, oO, oO, oO, oO, oO, oO, oO, oO, oO, oO, oO, oO, oO, oO, oO, oO, oO, oO, oO, oO, oO, oO, oO, oO, oO, oO, oO, oO, oO, oO, oO, oO] rfl rfl (take_ofW HT_.out HW_.out (by kernel_rfl)) (fun _ _ _ h => h) (Or.inl ⟨by rfl, ?_⟩) hHeld ?_ ?_
                      rotate_left
                      · rintro w' ⟨s0, s1, s2, s3, s4, s5, s6, s7, s8⟩
                        go_simp
                        with_reducible rfl
                      rotate_left
                      · simp only [Act.put, List.setIfInBounds_toArray, List.set_cons_zero, List.set_cons_succ, i64_w, i32_w]
                        rfl
                      refine take_ (i := 18) (N := some 48) (v := ?_) (a' := ?_) #[oI, oI, oI, oI, oI, oI, oI, oI, oI, oI, oI, oI, oI, oI, oI, oI, oI, oO, oI, oO, oO, oO, oO, oO, oO, oO, oO, oO, oO, oO, oO, oO, oO, oO, oO, oO, oO, oO, oO, oO, oO, oO, oO, oO, oO, oO, oO, oO, oO, oO, oO, oO, oO, oO, oO] rfl rfl (take_ofW HT_.out HW_.out (by kernel_rfl)) (fun _ _ _ h => h) (Or.inl ⟨by rfl, ?_⟩) hHeld ?_ ?_
                      rotate_left
                      · rintro w' ⟨s0, s1, s2, s3, s4, s5, s6, s7, s8⟩
                        go_simp
                        with_reducible rfl
                      rotate_left
                      · simp only [Act.put, List.setIfInBounds_toArray, List.set_cons_zero, List.set_cons_succ, i64_w, i32_w]
                        rfl
                      refine one_ (i := 17) (N := some 47) #[oI, oI, oI, oI, oI, oI, oI, oI, oI, oI, oI, oI, oI, oI, oI, oI, oI, oI, oI, oO, oO, oO, oO, oO, oO, oO, oO, oO, oO, oO, oO, oO, oO, oO, oO, oO, oO, oO, oO, oO, oO, oO, oO, oO, oO, oO, oO, oO, oO, oO, oO, oO, oO, oO, oO] rfl rfl (one_of HT_.out (by kernel_rfl)) (by decide) (fun K hK => ?_)
                      refine goes_ Try.func16 (by kernel_rfl) rfl #[.agg #[.int .u64 t412, .int .u64 t413, .int .i64 t414], .int .i64 a1, .int .i64 a2] (by rfl) rfl rfl (by (try simp only [List.map_toArray, List.map_cons, List.map_nil]); first | done | rfl | (simp only [List.length_drop, List.length_take]; rfl)) ?_
                      with_reducible refine (meter_Count.calls t412 t413 t414 a1 a2 t425 t426 t427 _ A13.out).mono ?_
                      rintro e w38 ⟨rfl, hb⟩
                      refine ⟨_, rfl, ?_⟩
                      have n0_ := Aside0.mk (blk_below (g := gb409) (o := .cells #[.int .u64 a0_0, .int .u64 a0_1, .int .i64 a0_2] 24 (0, 0)) (by (with_reducible repeat (first | refine qN ?_ _ | refine qD ?_ | refine qA ?_ _)); exact BK409.out) hb)
                      have n1_ := Aside0.mk (blk_below (g := gb416) (o := .cells #[.int .u64 t412, .int .u64 t413, .int .i64 t414] 24 (0, 0)) (by (with_reducible repeat (first | refine qN ?_ _ | refine qD ?_ | refine qA ?_ _)); exact BK416.out) hb)
                      have n2_ := Aside0.mk (blk_below (g := gb424) (o := .cells #[.int .u64 t420, .int .u64 t421, .int .i64 t422] 24 (0, 0)) (by (with_reducible repeat (first | refine qN ?_ _ | refine qD ?_ | refine qA ?_ _)); exact BK424.out) hb)
                      have n3_ := Aside0.mk (below_step (by repeat (first | (with_reducible first | exact HB.out | apply pA | apply pN | apply pD | refine pS ?_ GE409.out | refine pS ?_ GE416.out | refine pS ?_ GE424.out) | exact HB.out)) hb)
                      clear BK409
                      clear BK416
                      clear BK424
                      clear HB
                      have BK409 := n0_
                      have BK416 := n1_
                      have BK424 := n2_
                      have HB := n3_
                      clear n0_ n1_ n2_ n3_
                      (try clear hb)
                      (try clear hb2)
                      (try clear hk)
                      (try clear hi)
                      refine hK.out _ _ ⟨(blk_cell BK416.out 0).trans rfl, (blk_cell BK416.out 1).trans rfl, (blk_cell BK416.out 2).trans rfl, (blk_cell BK424.out 0).trans rfl, (blk_cell BK424.out 1).trans rfl, (blk_cell BK424.out 2).trans rfl, (blk_cell BK409.out 0).trans rfl, (blk_cell BK409.out 1).trans rfl, (blk_cell BK409.out 2).trans rfl⟩ (fun hHeld => ?_)
                      clear hK K
                      refine norm_ (a' := ?_) ?_ ?_
                      rotate_left
                      · show Act.put _ (some 47) _ = _
                        simp only [Act.put, List.setIfInBounds_toArray, List.set_cons_zero, List.set_cons_succ, i64_w, i32_w]
                        rfl
                      refine pure_ (i := 19) (N := some 49) (v := ?_) (a' := ?_) #[oI, oI, oI, oI, oI, oI, oI, oI, oI, oI, oI, oI, oI, oI, oI, oI, oI, oI, oI, oI, oO, oO, oO, oO, oO, oO, oO, oO, oO, oO, oO, oO, oO, oO, oO, oO, oO, oO, oO, oO, oO, oO, oO, oO, oO, oO, oO, oO, oO, oO, oO, oO, oO, oO, oO] rfl rfl (any_of HT_.out (by kernel_rfl)) (fun _ _ _ h => h) (Or.inl ⟨by rfl, ?_⟩) ?_ ?_
                      rotate_left
                      · intro w'
                        go_simp
                        with_reducible rfl
                      rotate_left
                      · simp only [Act.put, List.setIfInBounds_toArray, List.set_cons_zero, List.set_cons_succ, i64_w, i32_w]
                        rfl
                      refine pure_ (i := 20) (N := some 50) (v := ?_) (a' := ?_) #[oI, oI, oI, oI, oI, oI, oI, oI, oI, oI, oI, oI, oI, oI, oI, oI, oI, oI, oI, oI, oI, oO, oO, oO, oO, oO, oO, oO, oO, oO, oO, oO, oO, oO, oO, oO, oO, oO, oO, oO, oO, oO, oO, oO, oO, oO, oO, oO, oO, oO, oO, oO, oO, oO, oO] rfl rfl (any_of HT_.out (by kernel_rfl)) (fun _ _ _ h => h) (Or.inl ⟨by rfl, ?_⟩) ?_ ?_
                      rotate_left
                      · intro w'
                        go_simp
                        with_reducible rfl
                      rotate_left
                      · simp only [Act.put, List.setIfInBounds_toArray, List.set_cons_zero, List.set_cons_succ, i64_w, i32_w]
                        rfl
                      refine pure_ (i := 21) (N := some 51) (v := ?_) (a' := ?_) #[oI, oI, oI, oI, oI, oI, oI, oI, oI, oI, oI, oI, oI, oI, oI, oI, oI, oI, oI, oI, oI, oI, oO, oO, oO, oO, oO, oO, oO, oO, oO, oO, oO, oO, oO, oO, oO, oO, oO, oO, oO, oO, oO, oO, oO, oO, oO, oO, oO, oO, oO, oO, oO, oO, oO] rfl rfl (any_of HT_.out (by kernel_rfl)) (fun _ _ _ h => h) (Or.inl ⟨by rfl, ?_⟩) ?_ ?_
                      rotate_left
                      · intro w'
                        go_simp
                        with_reducible rfl
                      rotate_left
                      · simp only [Act.put, List.setIfInBounds_toArray, List.set_cons_zero, List.set_cons_succ, i64_w, i32_w]
                        rfl
                      refine pure_ (i := 22) (N := some 52) (v := ?_) (a' := ?_) #[oI, oI, oI, oI, oI, oI, oI, oI, oI, oI, oI, oI, oI, oI, oI, oI, oI, oI, oI, oI, oI, oI, oI, oO, oO, oO, oO, oO, oO, oO, oO, oO, oO, oO, oO, oO, oO, oO, oO, oO, oO, oO, oO, oO, oO, oO, oO, oO, oO, oO, oO, oO, oO, oO, oO] rfl rfl (any_of HT_.out (by kernel_rfl)) (fun _ _ _ h => h) (Or.inl ⟨by rfl, ?_⟩) ?_ ?_
                      rotate_left
                      · intro w'
                        go_simp
                        with_reducible rfl
                      rotate_left
                      · simp only [Act.put, List.setIfInBounds_toArray, List.set_cons_zero, List.set_cons_succ, i64_w, i32_w]
                        rfl
                      refine pure_ (i := 24) (N := some 54) (v := ?_) (a' := ?_) #[oI, oI, oI, oI, oI, oI, oI, oI, oI, oI, oI, oI, oI, oI, oI, oI, oI, oI, oI, oI, oI, oI, oI, oO, oI, oO, oO, oO, oO, oO, oO, oO, oO, oO, oO, oO, oO, oO, oO, oO, oO, oO, oO, oO, oO, oO, oO, oO, oO, oO, oO, oO, oO, oO, oO] rfl rfl (any_of HT_.out (by kernel_rfl)) (fun _ _ _ h => h) (Or.inl ⟨by rfl, ?_⟩) ?_ ?_
                      rotate_left
                      · intro w'
                        go_simp
                        with_reducible rfl
                      rotate_left
                      · simp only [Act.put, List.setIfInBounds_toArray, List.set_cons_zero, List.set_cons_succ, i64_w, i32_w]
                        rfl
                      refine take_ (i := 23) (N := some 53) (v := ?_) (a' := ?_) #[oI, oI, oI, oI, oI, oI, oI, oI, oI, oI, oI, oI, oI, oI, oI, oI, oI, oI, oI, oI, oI, oI, oI, oI, oI, oO, oO, oO, oO, oO, oO, oO, oO, oO, oO, oO, oO, oO, oO, oO, oO, oO, oO, oO, oO, oO, oO, oO, oO, oO, oO, oO, oO, oO, oO] rfl rfl (take_ofW HT_.out HW_.out (by kernel_rfl)) (fun _ _ _ h => h) (Or.inl ⟨by rfl, ?_⟩) hHeld ?_ ?_
                      rotate_left
                      · rintro w' ⟨s0, s1, s2, s3, s4, s5, s6, s7, s8⟩
                        go_simp
                        with_reducible rfl
                      rotate_left
                      · simp only [Act.put, List.setIfInBounds_toArray, List.set_cons_zero, List.set_cons_succ, i64_w, i32_w]
                        rfl
                      refine take_ (i := 25) (N := some 55) (v := ?_) (a' := ?_) #[oI, oI, oI, oI, oI, oI, oI, oI, oI, oI, oI, oI, oI, oI, oI, oI, oI, oI, oI, oI, oI, oI, oI, oI, oI, oI, oO, oO, oO, oO, oO, oO, oO, oO, oO, oO, oO, oO, oO, oO, oO, oO, oO, oO, oO, oO, oO, oO, oO, oO, oO, oO, oO, oO, oO] rfl rfl (take_ofW HT_.out HW_.out (by kernel_rfl)) (fun _ _ _ h => h) (Or.inl ⟨by rfl, ?_⟩) hHeld ?_ ?_
                      rotate_left
                      · rintro w' ⟨s0, s1, s2, s3, s4, s5, s6, s7, s8⟩
                        go_simp
                        with_reducible rfl
                      rotate_left
                      · simp only [Act.put, List.setIfInBounds_toArray, List.set_cons_zero, List.set_cons_succ, i64_w, i32_w]
                        rfl
                      refine pure_ (i := 26) (N := some 56) (v := ?_) (a' := ?_) #[oI, oI, oI, oI, oI, oI, oI, oI, oI, oI, oI, oI, oI, oI, oI, oI, oI, oI, oI, oI, oI, oI, oI, oI, oI, oI, oI, oO, oO, oO, oO, oO, oO, oO, oO, oO, oO, oO, oO, oO, oO, oO, oO, oO, oO, oO, oO, oO, oO, oO, oO, oO, oO, oO, oO] rfl rfl (any_of HT_.out (by kernel_rfl)) (fun _ _ _ h => h) (Or.inl ⟨by rfl, ?_⟩) ?_ ?_
                      rotate_left
                      · intro w'
                        go_simp
                        with_reducible rfl
                      rotate_left
                      · simp only [Act.put, List.setIfInBounds_toArray, List.set_cons_zero, List.set_cons_succ, i64_w, i32_w]
                        rfl
                      refine pure_ (i := 27) (N := some 57) (v := ?_) (a' := ?_) #[oI, oI, oI, oI, oI, oI, oI, oI, oI, oI, oI, oI, oI, oI, oI, oI, oI, oI, oI, oI, oI, oI, oI, oI, oI, oI, oI, oI, oO, oO, oO, oO, oO, oO, oO, oO, oO, oO, oO, oO, oO, oO, oO, oO, oO, oO, oO, oO, oO, oO, oO, oO, oO, oO, oO] rfl rfl (any_of HT_.out (by kernel_rfl)) (fun _ _ _ h => h) (Or.inl ⟨by rfl, ?_⟩) ?_ ?_
                      rotate_left
                      · intro w'
                        go_simp
                        with_reducible rfl
                      rotate_left
                      · simp only [Act.put, List.setIfInBounds_toArray, List.set_cons_zero, List.set_cons_succ, i64_w, i32_w]
                        rfl
                      refine pure_ (i := 28) (N := some 58) (v := ?_) (a' := ?_) #[oI, oI, oI, oI, oI, oI, oI, oI, oI, oI, oI, oI, oI, oI, oI, oI, oI, oI, oI, oI, oI, oI, oI, oI, oI, oI, oI, oI, oI, oO, oO, oO, oO, oO, oO, oO, oO, oO, oO, oO, oO, oO, oO, oO, oO, oO, oO, oO, oO, oO, oO, oO, oO, oO, oO] rfl rfl (any_of HT_.out (by kernel_rfl)) (fun _ _ _ h => h) (Or.inl ⟨by rfl, ?_⟩) ?_ ?_
                      rotate_left
                      · intro w'
                        go_simp
                        with_reducible rfl
                      rotate_left
                      · simp only [Act.put, List.setIfInBounds_toArray, List.set_cons_zero, List.set_cons_succ, i64_w, i32_w]
                        rfl
                      refine pure_ (i := 29) (N := some 59) (v := ?_) (a' := ?_) #[oI, oI, oI, oI, oI, oI, oI, oI, oI, oI, oI, oI, oI, oI, oI, oI, oI, oI, oI, oI, oI, oI, oI, oI, oI, oI, oI, oI, oI, oI, oO, oO, oO, oO, oO, oO, oO, oO, oO, oO, oO, oO, oO, oO, oO, oO, oO, oO, oO, oO, oO, oO, oO, oO, oO] rfl rfl (any_of HT_.out (by kernel_rfl)) (fun _ _ _ h => h) (Or.inl ⟨by rfl, ?_⟩) ?_ ?_
                      rotate_left
                      · intro w'
                        go_simp
                        with_reducible rfl
                      rotate_left
                      · simp only [Act.put, List.setIfInBounds_toArray, List.set_cons_zero, List.set_cons_succ, i64_w, i32_w]
                        rfl
                      refine pure_ (i := 31) (N := some 61) (v := ?_) (a' := ?_) #[oI, oI, oI, oI, oI, oI, oI, oI, oI, oI, oI, oI, oI, oI, oI, oI, oI, oI, oI, oI, oI, oI, oI, oI, oI, oI, oI, oI, oI, oI, oO, oI, oO, oO, oO, oO, oO, oO, oO, oO, oO, oO, oO, oO, oO, oO, oO, oO, oO, oO, oO, oO, oO, oO, oO] rfl rfl (any_of HT_.out (by kernel_rfl)) (fun _ _ _ h => h) (Or.inl ⟨by rfl, ?_⟩) ?_ ?_
                      rotate_left
                      · intro w'
                        go_simp
                        with_reducible rfl
                      rotate_left
                      · simp only [Act.put, List.setIfInBounds_toArray, List.set_cons_zero, List.set_cons_succ, i64_w, i32_w]
                        rfl
                      refine take_ (i := 30) (N := some 60) (v := ?_) (a' := ?_) #[oI, oI, oI, oI, oI, oI, oI, oI, oI, oI, oI, oI, oI, oI, oI, oI, oI, oI, oI, oI, oI, oI, oI, oI, oI, oI, oI, oI, oI, oI, oI, oI, oO, oO, oO, oO, oO, oO, oO, oO, oO, oO, oO, oO, oO, oO, oO, oO, oO, oO, oO, oO, oO, oO, oO] rfl rfl (take_ofW HT_.out HW_.out (by kernel_rfl)) (fun _ _ _ h => h) (Or.inl ⟨by rfl, ?_⟩) hHeld ?_ ?_
                      rotate_left
                      · rintro w' ⟨s0, s1, s2, s3, s4, s5, s6, s7, s8⟩
                        go_simp
                        with_reducible rfl
                      rotate_left
                      · simp only [Act.put, List.setIfInBounds_toArray, List.set_cons_zero, List.set_cons_succ, i64_w, i32_w]
                        rfl
                      refine take_ (i := 32) (N := some 62) (v := ?_) (a' := ?_) #[oI, oI, oI, oI, oI, oI, oI, oI, oI, oI, oI, oI, oI, oI, oI, oI, oI, oI, oI, oI, oI, oI, oI, oI, oI, oI, oI, oI, oI, oI, oI, oI, oI, oO, oO, oO, oO, oO, oO, oO, oO, oO, oO, oO, oO, oO, oO, oO, oO, oO, oO, oO, oO, oO, oO] rfl rfl (take_ofW HT_.out HW_.out (by kernel_rfl)) (fun _ _ _ h => h) (Or.inl ⟨by rfl, ?_⟩) hHeld ?_ ?_
                      rotate_left
                      · rintro w' ⟨s0, s1, s2, s3, s4, s5, s6, s7, s8⟩
                        go_simp
                        with_reducible rfl
                      rotate_left
                      · simp only [Act.put, List.setIfInBounds_toArray, List.set_cons_zero, List.set_cons_succ, i64_w, i32_w]
                        rfl
                      refine pure_ (i := 33) (N := some 63) (v := ?_) (a' := ?_) #[oI, oI, oI, oI, oI, oI, oI, oI, oI, oI, oI, oI, oI, oI, oI, oI, oI, oI, oI, oI, oI, oI, oI, oI, oI, oI, oI, oI, oI, oI, oI, oI, oI, oI, oO, oO, oO, oO, oO, oO, oO, oO, oO, oO, oO, oO, oO, oO, oO, oO, oO, oO, oO, oO, oO] rfl rfl (any_of HT_.out (by kernel_rfl)) (fun _ _ _ h => h) (Or.inl ⟨by rfl, ?_⟩) ?_ ?_
                      rotate_left
                      · intro w'
                        go_simp
                        with_reducible rfl
                      rotate_left
                      · simp only [Act.put, List.setIfInBounds_toArray, List.set_cons_zero, List.set_cons_succ, i64_w, i32_w]
                        rfl
                      refine pure_ (i := 34) (N := some 64) (v := ?_) (a' := ?_) #[oI, oI, oI, oI, oI, oI, oI, oI, oI, oI, oI, oI, oI, oI, oI, oI, oI, oI, oI, oI, oI, oI, oI, oI, oI, oI, oI, oI, oI, oI, oI, oI, oI, oI, oI, oO, oO, oO, oO, oO, oO, oO, oO, oO, oO, oO, oO, oO, oO, oO, oO, oO, oO, oO, oO] rfl rfl (any_of HT_.out (by kernel_rfl)) (fun _ _ _ h => h) (Or.inl ⟨by rfl, ?_⟩) ?_ ?_
                      rotate_left
                      · intro w'
                        go_simp
                        with_reducible rfl
                      rotate_left
                      · simp only [Act.put, List.setIfInBounds_toArray, List.set_cons_zero, List.set_cons_succ, i64_w, i32_w]
                        rfl
                      refine pure_ (i := 35) (N := some 65) (v := ?_) (a' := ?_) #[oI, oI, oI, oI, oI, oI, oI, oI, oI, oI, oI, oI, oI, oI, oI, oI, oI, oI, oI, oI, oI, oI, oI, oI, oI, oI, oI, oI, oI, oI, oI, oI, oI, oI, oI, oI, oO, oO, oO, oO, oO, oO, oO, oO, oO, oO, oO, oO, oO, oO, oO, oO, oO, oO, oO] rfl rfl (any_of HT_.out (by kernel_rfl)) (fun _ _ _ h => h) (Or.inl ⟨by rfl, ?_⟩) ?_ ?_
                      rotate_left
                      · intro w'
                        go_simp
                        with_reducible rfl
                      rotate_left
                      · simp only [Act.put, List.setIfInBounds_toArray, List.set_cons_zero, List.set_cons_succ, i64_w, i32_w]
                        rfl
                      refine pure_ (i := 36) (N := some 66) (v := ?_) (a' := ?_) #[oI, oI, oI, oI, oI, oI, oI, oI, oI, oI, oI, oI, oI, oI, oI, oI, oI, oI, oI, oI, oI, oI, oI, oI, oI, oI, oI, oI, oI, oI, oI, oI, oI, oI, oI, oI, oI, oO, oO, oO, oO, oO, oO, oO, oO, oO, oO, oO, oO, oO, oO, oO, oO, oO, oO] rfl rfl (any_of HT_.out (by kernel_rfl)) (fun _ _ _ h => h) (Or.inl ⟨by rfl, ?_⟩) ?_ ?_
                      rotate_left
                      · intro w'
                        go_simp
                        with_reducible rfl
                      rotate_left
                      · simp only [Act.put, List.setIfInBounds_toArray, List.set_cons_zero, List.set_cons_succ, i64_w, i32_w]
                        rfl
                      refine pure_ (i := 37) (N := some 67) (v := ?_) (a' := ?_) #[oI, oI, oI, oI, oI, oI, oI, oI, oI, oI, oI, oI, oI, oI, oI, oI, oI, oI, oI, oI, oI, oI, oI, oI, oI, oI, oI, oI, oI, oI, oI, oI, oI, oI, oI, oI, oI, oI, oO, oO, oO, oO, oO, oO, oO, oO, oO, oO, oO, oO, oO, oO, oO, oO, oO] rfl rfl (any_of HT_.out (by kernel_rfl)) (fun _ _ _ h => h) (Or.inl ⟨by rfl, ?_⟩) ?_ ?_
                      rotate_left
                      · intro w'
                        go_simp
                        with_reducible rfl
                      rotate_left
                      · simp only [Act.put, List.setIfInBounds_toArray, List.set_cons_zero, List.set_cons_succ, i64_w, i32_w]
                        rfl
                      refine pure_ (i := 38) (N := some 68) (v := ?_) (a' := ?_) #[oI, oI, oI, oI, oI, oI, oI, oI, oI, oI, oI, oI, oI, oI, oI, oI, oI, oI, oI, oI, oI, oI, oI, oI, oI, oI, oI, oI, oI, oI, oI, oI, oI, oI, oI, oI, oI, oI, oI, oO, oO, oO, oO, oO, oO, oO, oO, oO, oO, oO, oO, oO, oO, oO, oO] rfl rfl (any_of HT_.out (by kernel_rfl)) (fun _ _ _ h => h) (Or.inl ⟨by rfl, ?_⟩) ?_ ?_
                      rotate_left
                      · intro w'
                        go_simp
                        with_reducible rfl
                      rotate_left
                      · simp only [Act.put, List.setIfInBounds_toArray, List.set_cons_zero, List.set_cons_succ, i64_w, i32_w]
                        rfl
                      refine pure_ (i := 39) (N := some 69) (v := ?_) (a' := ?_) #[oI, oI, oI, oI, oI, oI, oI, oI, oI, oI, oI, oI, oI, oI, oI, oI, oI, oI, oI, oI, oI, oI, oI, oI, oI, oI, oI, oI, oI, oI, oI, oI, oI, oI, oI, oI, oI, oI, oI, oI, oO, oO, oO, oO, oO, oO, oO, oO, oO, oO, oO, oO, oO, oO, oO] rfl rfl (any_of HT_.out (by kernel_rfl)) (fun _ _ _ h => h) (Or.inl ⟨by rfl, ?_⟩) ?_ ?_
                      rotate_left
                      · intro w'
                        go_simp
                        with_reducible rfl
                      rotate_left
                      · simp only [Act.put, List.setIfInBounds_toArray, List.set_cons_zero, List.set_cons_succ, i64_w, i32_w]
                        rfl
                      refine take_ (i := 40) (N := some 70) (v := ?_) (a' := ?_) #[oI, oI, oI, oI, oI, oI, oI, oI, oI, oI, oI, oI, oI, oI, oI, oI, oI, oI, oI, oI, oI, oI, oI, oI, oI, oI, oI, oI, oI, oI, oI, oI, oI, oI, oI, oI, oI, oI, oI, oI, oI, oO, oO, oO, oO, oO, oO, oO, oO, oO, oO, oO, oO, oO, oO] rfl rfl (take_ofW HT_.out HW_.out (by kernel_rfl)) (fun _ _ _ h => h) (Or.inl ⟨by rfl, ?_⟩) hHeld ?_ ?_
                      rotate_left
                      · rintro w' ⟨s0, s1, s2, s3, s4, s5, s6, s7, s8⟩
                        go_simp
                        with_reducible rfl
                      rotate_left
                      · simp only [Act.put, List.setIfInBounds_toArray, List.set_cons_zero, List.set_cons_succ, i64_w, i32_w]
                        rfl
                      refine pure_ (i := 41) (N := some 71) (v := ?_) (a' := ?_) #[oI, oI, oI, oI, oI, oI, oI, oI, oI, oI, oI, oI, oI, oI, oI, oI, oI, oI, oI, oI, oI, oI, oI, oI, oI, oI, oI, oI, oI, oI, oI, oI, oI, oI, oI, oI, oI, oI, oI, oI, oI, oI, oO, oO, oO, oO, oO, oO, oO, oO, oO, oO, oO, oO, oO] rfl rfl (any_of HT_.out (by kernel_rfl)) (fun _ _ _ h => h) (Or.inl ⟨by rfl, ?_⟩) ?_ ?_
                      rotate_left
                      · intro w'
                        go_simp
                        with_reducible rfl
                      rotate_left
                      · simp only [Act.put, List.setIfInBounds_toArray, List.set_cons_zero, List.set_cons_succ, i64_w, i32_w]
                        rfl
                      refine pure_ (i := 42) (N := some 72) (v := ?_) (a' := ?_) #[oI, oI, oI, oI, oI, oI, oI, oI, oI, oI, oI, oI, oI, oI, oI, oI, oI, oI, oI, oI, oI, oI, oI, oI, oI, oI, oI, oI, oI, oI, oI, oI, oI, oI, oI, oI, oI, oI, oI, oI, oI, oI, oI, oO, oO, oO, oO, oO, oO, oO, oO, oO, oO, oO, oO] rfl rfl (any_of HT_.out (by kernel_rfl)) (fun _ _ _ h => h) (Or.inl ⟨by rfl, ?_⟩) ?_ ?_
                      rotate_left
                      · intro w'
                        go_simp
                        with_reducible rfl
                      rotate_left
                      · simp only [Act.put, List.setIfInBounds_toArray, List.set_cons_zero, List.set_cons_succ, i64_w, i32_w]
                        rfl
                      refine pure_ (i := 43) (N := some 73) (v := ?_) (a' := ?_) #[oI, oI, oI, oI, oI, oI, oI, oI, oI, oI, oI, oI, oI, oI, oI, oI, oI, oI, oI, oI, oI, oI, oI, oI, oI, oI, oI, oI, oI, oI, oI, oI, oI, oI, oI, oI, oI, oI, oI, oI, oI, oI, oI, oI, oO, oO, oO, oO, oO, oO, oO, oO, oO, oO, oO] rfl rfl (any_of HT_.out (by kernel_rfl)) (fun _ _ _ h => h) (Or.inl ⟨by rfl, ?_⟩) ?_ ?_
                      rotate_left
                      · intro w'
                        go_simp
                        with_reducible rfl
                      rotate_left
                      · simp only [Act.put, List.setIfInBounds_toArray, List.set_cons_zero, List.set_cons_succ, i64_w, i32_w]
                        rfl
                      refine pure_ (i := 44) (N := some 74) (v := ?_) (a' := ?_) #[oI, oI, oI, oI, oI, oI, oI, oI, oI, oI, oI, oI, oI, oI, oI, oI, oI, oI, oI, oI, oI, oI, oI, oI, oI, oI, oI, oI, oI, oI, oI, oI, oI, oI, oI, oI, oI, oI, oI, oI, oI, oI, oI, oI, oI, oO, oO, oO, oO, oO, oO, oO, oO, oO, oO] rfl rfl (any_of HT_.out (by kernel_rfl)) (fun _ _ _ h => h) (Or.inl ⟨by rfl, ?_⟩) ?_ ?_
                      rotate_left
                      · intro w'
                        go_simp
                        with_reducible rfl
                      rotate_left
                      · simp only [Act.put, List.setIfInBounds_toArray, List.set_cons_zero, List.set_cons_succ, i64_w, i32_w]
                        rfl
                      refine pure_ (i := 45) (N := some 75) (v := ?_) (a' := ?_) #[oI, oI, oI, oI, oI, oI, oI, oI, oI, oI, oI, oI, oI, oI, oI, oI, oI, oI, oI, oI, oI, oI, oI, oI, oI, oI, oI, oI, oI, oI, oI, oI, oI, oI, oI, oI, oI, oI, oI, oI, oI, oI, oI, oI, oI, oI, oO, oO, oO, oO, oO, oO, oO, oO, oO] rfl rfl (any_of HT_.out (by kernel_rfl)) (fun _ _ _ h => h) (Or.inl ⟨by rfl, ?_⟩) ?_ ?_
                      rotate_left
                      · intro w'
                        go_simp
                        with_reducible rfl
                      rotate_left
                      · simp only [Act.put, List.setIfInBounds_toArray, List.set_cons_zero, List.set_cons_succ, i64_w, i32_w]
                        rfl
                      refine take_ (i := 46) (N := some 76) (v := ?_) (a' := ?_) #[oI, oI, oI, oI, oI, oI, oI, oI, oI, oI, oI, oI, oI, oI, oI, oI, oI, oI, oI, oI, oI, oI, oI, oI, oI, oI, oI, oI, oI, oI, oI, oI, oI, oI, oI, oI, oI, oI, oI, oI, oI, oI, oI, oI, oI, oI, oI, oO, oO, oO, oO, oO, oO, oO, oO] rfl rfl (take_ofW HT_.out HW_.out (by kernel_rfl)) (fun _ _ _ h => h) (Or.inl ⟨by rfl, ?_⟩) hHeld ?_ ?_
                      rotate_left
                      · rintro w' ⟨s0, s1, s2, s3, s4, s5, s6, s7, s8⟩
                        go_simp
                        with_reducible rfl
                      rotate_left
                      · simp only [Act.put, List.setIfInBounds_toArray, List.set_cons_zero, List.set_cons_succ, i64_w, i32_w]
                        rfl
                      refine pure_ (i := 47) (N := some 77) (v := ?_) (a' := ?_) #[oI, oI, oI, oI, oI, oI, oI, oI, oI, oI, oI, oI, oI, oI, oI, oI, oI, oI, oI, oI, oI, oI, oI, oI, oI, oI, oI, oI, oI, oI, oI, oI, oI, oI, oI, oI, oI, oI, oI, oI, oI, oI, oI, oI, oI, oI, oI, oI, oO, oO, oO, oO, oO, oO, oO] rfl rfl (any_of HT_.out (by kernel_rfl)) (fun _ _ _ h => h) (Or.inl ⟨by rfl, ?_⟩) ?_ ?_
                      rotate_left
                      · intro w'
                        go_simp
                        with_reducible rfl
                      rotate_left
                      · simp only [Act.put, List.setIfInBounds_toArray, List.set_cons_zero, List.set_cons_succ, i64_w, i32_w]
                        rfl
                      refine pure_ (i := 48) (N := some 78) (v := ?_) (a' := ?_) #[oI, oI, oI, oI, oI, oI, oI, oI, oI, oI, oI, oI, oI, oI, oI, oI, oI, oI, oI, oI, oI, oI, oI, oI, oI, oI, oI, oI, oI, oI, oI, oI, oI, oI, oI, oI, oI, oI, oI, oI, oI, oI, oI, oI, oI, oI, oI, oI, oI, oO, oO, oO, oO, oO, oO] rfl rfl (any_of HT_.out (by kernel_rfl)) (fun _ _ _ h => h) (Or.inl ⟨by rfl, ?_⟩) ?_ ?_
                      rotate_left
                      · intro w'
                        go_simp
                        with_reducible rfl
                      rotate_left
                      · simp only [Act.put, List.setIfInBounds_toArray, List.set_cons_zero, List.set_cons_succ, i64_w, i32_w]
                        rfl
                      refine pure_ (i := 49) (N := some 79) (v := undef) (a' := ?_) #[oI, oI, oI, oI, oI, oI, oI, oI, oI, oI, oI, oI, oI, oI, oI, oI, oI, oI, oI, oI, oI, oI, oI, oI, oI, oI, oI, oI, oI, oI, oI, oI, oI, oI, oI, oI, oI, oI, oI, oI, oI, oI, oI, oI, oI, oI, oI, oI, oI, oI, oO, oO, oO, oO, oO] rfl rfl (any_of HT_.out (by kernel_rfl)) (fun _ _ _ h => h) (Or.inr ⟨by rfl, rfl⟩) ?_ ?_
                      rotate_left
                      · simp only [Act.put, List.setIfInBounds_toArray, List.set_cons_zero, List.set_cons_succ, i64_w, i32_w]
                        rfl
                      refine pure_ (i := 50) (N := some 80) (v := undef) (a' := ?_) #[oI, oI, oI, oI, oI, oI, oI, oI, oI, oI, oI, oI, oI, oI, oI, oI, oI, oI, oI, oI, oI, oI, oI, oI, oI, oI, oI, oI, oI, oI, oI, oI, oI, oI, oI, oI, oI, oI, oI, oI, oI, oI, oI, oI, oI, oI, oI, oI, oI, oI, oI, oO, oO, oO, oO] rfl rfl (any_of HT_.out (by kernel_rfl)) (fun _ _ _ h => h) (Or.inr ⟨by rfl, rfl⟩) ?_ ?_
                      rotate_left
                      · simp only [Act.put, List.setIfInBounds_toArray, List.set_cons_zero, List.set_cons_succ, i64_w, i32_w]
                        rfl
                      refine pure_ (i := 51) (N := some 81) (v := undef) (a' := ?_) #[oI, oI, oI, oI, oI, oI, oI, oI, oI, oI, oI, oI, oI, oI, oI, oI, oI, oI, oI, oI, oI, oI, oI, oI, oI, oI, oI, oI, oI, oI, oI, oI, oI, oI, oI, oI, oI, oI, oI, oI, oI, oI, oI, oI, oI, oI, oI, oI, oI, oI, oI, oI, oO, oO, oO] rfl rfl (any_of HT_.out (by kernel_rfl)) (fun _ _ _ h => h) (Or.inr ⟨by rfl, rfl⟩) ?_ ?_
                      rotate_left
                      · simp only [Act.put, List.setIfInBounds_toArray, List.set_cons_zero, List.set_cons_succ, i64_w, i32_w]
                        rfl
                      refine pure_ (i := 52) (N := some 82) (v := ?_) (a' := ?_) #[oI, oI, oI, oI, oI, oI, oI, oI, oI, oI, oI, oI, oI, oI, oI, oI, oI, oI, oI, oI, oI, oI, oI, oI, oI, oI, oI, oI, oI, oI, oI, oI, oI, oI, oI, oI, oI, oI, oI, oI, oI, oI, oI, oI, oI, oI, oI, oI, oI, oI, oI, oI, oI, oO, oO] rfl rfl (any_of HT_.out (by kernel_rfl)) (fun _ _ _ h => h) (Or.inl ⟨by rfl, ?_⟩) ?_ ?_
                      rotate_left
                      · intro w'
                        go_simp
                        with_reducible rfl
                      rotate_left
                      · simp only [Act.put, List.setIfInBounds_toArray, List.set_cons_zero, List.set_cons_succ, i64_w, i32_w]
                        rfl
                      refine pure_ (i := 53) (N := some 83) (v := ?_) (a' := ?_) #[oI, oI, oI, oI, oI, oI, oI, oI, oI, oI, oI, oI, oI, oI, oI, oI, oI, oI, oI, oI, oI, oI, oI, oI, oI, oI, oI, oI, oI, oI, oI, oI, oI, oI, oI, oI, oI, oI, oI, oI, oI, oI, oI, oI, oI, oI, oI, oI, oI, oI, oI, oI, oI, oI, oO] rfl rfl (any_of HT_.out (by kernel_rfl)) (fun _ _ _ h => h) (Or.inl ⟨by rfl, ?_⟩) ?_ ?_
                      rotate_left
                      · intro w'
                        go_simp
                        with_reducible rfl
                      rotate_left
                      · simp only [Act.put, List.setIfInBounds_toArray, List.set_cons_zero, List.set_cons_succ, i64_w, i32_w]
                        rfl
                      refine pure_ (i := 54) (N := some 6) (v := ?_) (a' := ?_) #[oI, oI, oI, oI, oI, oI, oI, oI, oI, oI, oI, oI, oI, oI, oI, oI, oI, oI, oI, oI, oI, oI, oI, oI, oI, oI, oI, oI, oI, oI, oI, oI, oI, oI, oI, oI, oI, oI, oI, oI, oI, oI, oI, oI, oI, oI, oI, oI, oI, oI, oI, oI, oI, oI, oI] rfl rfl (any_of HT_.out (by kernel_rfl)) (fun _ _ _ h => h) (Or.inl ⟨by rfl, ?_⟩) ?_ ?_
                      rotate_left
                      · intro w'
                        go_simp
                        with_reducible rfl
                      rotate_left
                      · simp only [Act.put, List.setIfInBounds_toArray, List.set_cons_zero, List.set_cons_succ, i64_w, i32_w]
                        rfl
                      refine done_ (done_of HT_.out (by kernel_rfl)) ?_
                      try go_wp2
                      go_ret
                      exact ⟨by first | rfl | (simp [errW_none, errW_some] <;> rfl) | (simp [*, errW_none, errW_some] <;> rfl), by repeat (first | (with_reducible first | exact HB.out | apply pA | apply pN | apply pD | refine pS ?_ GE409.out | refine pS ?_ GE416.out | refine pS ?_ GE424.out) | exact HB.out)⟩
                    · rw [if_neg c19] at H
                      have c19b0 : decide (0 < a0_2) = false := decide_eq_false c19
                      clear c19
                      clear hlaw_
                      obtain rfl := Option.some.inj H
                      go_enter Try.func7, Try.ntmps7
                      try go_wp2_with (first | ((with_reducible refine gate_dst (N := 3) rfl ?_); refine box_event ?hg (N := 3) ?hd (cs := #[.int .u64 a0_0, .int .u64 a0_1, .int .i64 a0_2]) (t := 24) ?hr ?_; (case hd => rfl); (case hg => rfl); (case hr => first | (go_simp; done) | (go_simp; rfl)); intro gb409 hg w39 hbox hb; have n0_ := Aside0.mk (below_step (by repeat (first | (with_reducible first | exact HB.out | apply pA | apply pN | apply pD) | exact HB.out)) hb); have n1_ := Aside0.mk (hbox); have n2_ := Aside0.mk ((by rw [hg]; exact (below_size (by repeat (first | (with_reducible first | exact HB.out | apply pA | apply pN | apply pD) | exact HB.out))) : w.heap.size ≤ gb409)); have n3_ := Aside0.mk ((by rw [hg]; exact (below_size (by repeat (first | (with_reducible first | exact HB.out | apply pA | apply pN | apply pD) | exact HB.out))) : w.heap.size ≤ gb409)); clear HB; have HB := n0_; have BK409 := n1_; have GW409 := n2_; have GE409 := n3_; clear n0_ n1_ n2_ n3_; clear hb hbox hg) | ((with_reducible refine gate_callee (f := 9) rfl ?_); refine goesL_ (some 12) rfl rfl Try.func9 (by kernel_rfl) rfl #[] rfl (by (try simp only [List.map_toArray, List.map_cons, List.map_nil]); first | done | rfl | (simp only [List.length_drop, List.length_take]; rfl)) ?_; (with_reducible refine (portreevelaw17_shown.calls k  true _ A4.out).mono ?_); rintro e w40 ⟨rfl, hb⟩; refine ⟨_, rfl, ?_⟩; have n0_ := Aside0.mk (blk_below (g := gb409) (o := .cells #[.int .u64 a0_0, .int .u64 a0_1, .int .i64 a0_2] 24 (0, 0)) (by (with_reducible repeat (first | refine qN ?_ _ | refine qD ?_ | refine qA ?_ _)); exact BK409.out) hb); have n1_ := Aside0.mk (below_step (by repeat (first | (with_reducible first | exact HB.out | apply pA | apply pN | apply pD | refine pS ?_ GE409.out) | exact HB.out)) hb); clear BK409; clear HB; have BK409 := n0_; have HB := n1_; clear n0_ n1_; (try clear hb); (try clear hb2); (try clear hk); (try clear hi); have hcz41_0 : w40.cell? ⟨gb409, 0, none⟩ = some (.int .u64 a0_0) := (blk_cell BK409.out 0).trans rfl; have hcz41_1 : w40.cell? ⟨gb409, 1, none⟩ = some (.int .u64 a0_1) := (blk_cell BK409.out 1).trans rfl; have hcz41_2 : w40.cell? ⟨gb409, 2, none⟩ = some (.int .i64 a0_2) := (blk_cell BK409.out 2).trans rfl; have hfz41_0 := blk_frozen BK409.out 0; have hfz41_1 := blk_frozen BK409.out 1; have hfz41_2 := blk_frozen BK409.out 2) | ((with_reducible refine gate_callee (f := 10) rfl ?_); refine goesL_ (some 14) rfl rfl Try.func10 (by kernel_rfl) rfl #[.agg #[.int .u64 a0_0, .int .u64 a0_1, .int .i64 a0_2]] rfl (by (try simp only [List.map_toArray, List.map_cons, List.map_nil]); first | done | rfl | (simp only [List.length_drop, List.length_take]; rfl)) ?_; (with_reducible refine (portreeveref17_Right.calls a0_0 a0_1 a0_2 true _ A5.out).mono ?_); rintro e w42 ⟨rfl, hb⟩; refine ⟨_, rfl, ?_⟩; have n0_ := Aside0.mk (blk_below (g := gb409) (o := .cells #[.int .u64 a0_0, .int .u64 a0_1, .int .i64 a0_2] 24 (0, 0)) (by (with_reducible repeat (first | refine qN ?_ _ | refine qD ?_ | refine qA ?_ _)); exact BK409.out) hb); have n1_ := Aside0.mk (below_step (by repeat (first | (with_reducible first | exact HB.out | apply pA | apply pN | apply pD | refine pS ?_ GE409.out) | exact HB.out)) hb); clear BK409; clear HB; have BK409 := n0_; have HB := n1_; clear n0_ n1_; (try clear hb); (try clear hb2); (try clear hk); (try clear hi); have hcz43_0 : w42.cell? ⟨gb409, 0, none⟩ = some (.int .u64 a0_0) := (blk_cell BK409.out 0).trans rfl; have hcz43_1 : w42.cell? ⟨gb409, 1, none⟩ = some (.int .u64 a0_1) := (blk_cell BK409.out 1).trans rfl; have hcz43_2 : w42.cell? ⟨gb409, 2, none⟩ = some (.int .i64 a0_2) := (blk_cell BK409.out 2).trans rfl; have hfz43_0 := blk_frozen BK409.out 0; have hfz43_1 := blk_frozen BK409.out 1; have hfz43_2 := blk_frozen BK409.out 2) | ((with_reducible refine gate_callee (f := 14) rfl ?_); refine goesL_ (some 19) rfl rfl Try.func14 (by kernel_rfl) rfl #[.agg #[.int .u64 a0_0, .int .u64 a0_1, .int .i64 a0_2]] rfl (by (try simp only [List.map_toArray, List.map_cons, List.map_nil]); first | done | rfl | (simp only [List.length_drop, List.length_take]; rfl)) ?_; (with_reducible refine (meter_Tick.calls a0_0 a0_1 a0_2 t412 t413 t414 true _ A7.out).mono ?_); rintro e w44 ⟨rfl, hb⟩; refine ⟨_, rfl, ?_⟩; have n0_ := Aside0.mk (blk_below (g := gb409) (o := .cells #[.int .u64 a0_0, .int .u64 a0_1, .int .i64 a0_2] 24 (0, 0)) (by (with_reducible repeat (first | refine qN ?_ _ | refine qD ?_ | refine qA ?_ _)); exact BK409.out) hb); have n1_ := Aside0.mk (below_step (by repeat (first | (with_reducible first | exact HB.out | apply pA | apply pN | apply pD | refine pS ?_ GE409.out) | exact HB.out)) hb); clear BK409; clear HB; have BK409 := n0_; have HB := n1_; clear n0_ n1_; (try clear hb); (try clear hb2); (try clear hk); (try clear hi)) | ((with_reducible refine gate_dst (N := 8) rfl ?_); refine box_event ?hg (N := 8) ?hd (cs := #[.int .u64 0, .int .u64 0, .int .i64 0]) (t := 24) ?hr ?_; (case hd => rfl); (case hg => rfl); (case hr => first | (go_simp; done) | (go_simp; rfl)); intro gb416 hg w45 hbox hb; have n0_ := Aside0.mk (blk_below (g := gb409) (o := .cells #[.int .u64 a0_0, .int .u64 a0_1, .int .i64 a0_2] 24 (0, 0)) (by (with_reducible repeat (first | refine qN ?_ _ | refine qD ?_ | refine qA ?_ _)); exact BK409.out) hb); have n1_ := Aside0.mk (below_step (by repeat (first | (with_reducible first | exact HB.out | apply pA | apply pN | apply pD | refine pS ?_ GE409.out) | exact HB.out)) hb); have n2_ := Aside0.mk (hbox); have n3_ := Aside0.mk ((by rw [hg]; exact (below_size (by repeat (first | (with_reducible first | exact HB.out | apply pA | apply pN | apply pD | refine pS ?_ GE409.out) | exact HB.out))) : w.heap.size ≤ gb416)); have n4_ := Aside0.mk ((by rw [hg]; exact (below_size (by repeat (first | (with_reducible first | exact HB.out | apply pA | apply pN | apply pD | refine pS ?_ GE409.out) | exact HB.out))) : w.heap.size ≤ gb416)); have n5_ := Aside0.mk ((by rw [hg]; exact Nat.ne_of_lt (blk_lt (g := gb409) (o := .cells #[.int .u64 a0_0, .int .u64 a0_1, .int .i64 a0_2] 24 (0, 0)) (by (with_reducible repeat (first | refine qN ?_ _ | refine qD ?_ | refine qA ?_ _)); exact BK409.out)) : gb409 ≠ gb416)); have n6_ := Aside0.mk ((by rw [hg]; exact Nat.ne_of_gt (blk_lt (g := gb409) (o := .cells #[.int .u64 a0_0, .int .u64 a0_1, .int .i64 a0_2] 24 (0, 0)) (by (with_reducible repeat (first | refine qN ?_ _ | refine qD ?_ | refine qA ?_ _)); exact BK409.out)) : gb416 ≠ gb409)); clear BK409; clear HB; have BK409 := n0_; have HB := n1_; have BK416 := n2_; have GW416 := n3_; have GE416 := n4_; have NB409_416 := n5_; have NB416_409 := n6_; clear n0_ n1_ n2_ n3_ n4_ n5_ n6_; clear hb hbox hg; have hnb46 := NB416_409.out; have hnc46 := NB409_416.out; have hcz47_0 : w45.cell? ⟨gb416, 0, none⟩ = some (.int .u64 0) := (blk_cell BK416.out 0).trans rfl; have hcz47_1 : w45.cell? ⟨gb416, 1, none⟩ = some (.int .u64 0) := (blk_cell BK416.out 1).trans rfl; have hcz47_2 : w45.cell? ⟨gb416, 2, none⟩ = some (.int .i64 0) := (blk_cell BK416.out 2).trans rfl; have hfz47_0 := blk_frozen BK416.out 0; have hfz47_1 := blk_frozen BK416.out 1; have hfz47_2 := blk_frozen BK416.out 2; have hcz48_0 : w45.cell? ⟨gb409, 0, none⟩ = some (.int .u64 a0_0) := (blk_cell BK409.out 0).trans rfl; have hcz48_1 : w45.cell? ⟨gb409, 1, none⟩ = some (.int .u64 a0_1) := (blk_cell BK409.out 1).trans rfl; have hcz48_2 : w45.cell? ⟨gb409, 2, none⟩ = some (.int .i64 a0_2) := (blk_cell BK409.out 2).trans rfl; have hfz48_0 := blk_frozen BK409.out 0; have hfz48_1 := blk_frozen BK409.out 1; have hfz48_2 := blk_frozen BK409.out 2) | ((with_reducible refine gate_callee (f := 16) rfl ?_); refine goesL_ (some 26) rfl rfl Try.func16 (by kernel_rfl) rfl #[.agg #[.int .u64 a0_0, .int .u64 a0_1, .int .i64 a0_2], .int .i64 a1, .int .i64 a2] rfl (by (try simp only [List.map_toArray, List.map_cons, List.map_nil]); first | done | rfl | (simp only [List.length_drop, List.length_take]; rfl)) ?_; (with_reducible refine (meter_Count.calls a0_0 a0_1 a0_2 a1 a2 t417 t418 t419 _ A8.out).mono ?_); rintro e w49 ⟨rfl, hb⟩; refine ⟨_, rfl, ?_⟩; have n0_ := Aside0.mk (blk_below (g := gb409) (o := .cells #[.int .u64 a0_0, .int .u64 a0_1, .int .i64 a0_2] 24 (0, 0)) (by (with_reducible repeat (first | refine qN ?_ _ | refine qD ?_ | refine qA ?_ _)); refine blk_far ?_ NB409_416.out _; (with_reducible repeat (first | refine qN ?_ _ | refine qD ?_ | refine qA ?_ _)); refine blk_far ?_ NB409_416.out _; (with_reducible repeat (first | refine qN ?_ _ | refine qD ?_ | refine qA ?_ _)); refine blk_far ?_ NB409_416.out _; (with_reducible repeat (first | refine qN ?_ _ | refine qD ?_ | refine qA ?_ _)); exact BK409.out) hb); have n1_ := Aside0.mk (blk_below (g := gb416) (o := .cells #[.int .u64 t412, .int .u64 t413, .int .i64 t414] 24 (0, 0)) (by (with_reducible repeat (first | refine qN ?_ _ | refine qD ?_ | refine qA ?_ _)); refine blk_put (cs := #[.int .u64 t412, .int .u64 t413, .int .i64 0]) ?_ 2 _ rfl; (with_reducible repeat (first | refine qN ?_ _ | refine qD ?_ | refine qA ?_ _)); refine blk_put (cs := #[.int .u64 t412, .int .u64 0, .int .i64 0]) ?_ 1 _ rfl; (with_reducible repeat (first | refine qN ?_ _ | refine qD ?_ | refine qA ?_ _)); refine blk_put (cs := #[.int .u64 0, .int .u64 0, .int .i64 0]) ?_ 0 _ rfl; (with_reducible repeat (first | refine qN ?_ _ | refine qD ?_ | refine qA ?_ _)); exact BK416.out) hb); have n2_ := Aside0.mk (below_step (by repeat (first | (with_reducible first | exact HB.out | apply pA | apply pN | apply pD | refine pS ?_ GE409.out | refine pS ?_ GE416.out) | exact HB.out)) hb); clear BK409; clear BK416; clear HB; have BK409 := n0_; have BK416 := n1_; have HB := n2_; clear n0_ n1_ n2_; (try clear hb); (try clear hb2); (try clear hk); (try clear hi)) | ((with_reducible refine gate_callee (f := 14) rfl ?_); refine goesL_ (some 27) rfl rfl Try.func14 (by kernel_rfl) rfl #[.agg #[.int .u64 t417, .int .u64 t418, .int .i64 t419]] rfl (by (try simp only [List.map_toArray, List.map_cons, List.map_nil]); first | done | rfl | (simp only [List.length_drop, List.length_take]; rfl)) ?_; (with_reducible refine (meter_Tick.calls t417 t418 t419 t420 t421 t422 t423 _ A9.out).mono ?_); rintro e w50 ⟨rfl, hb⟩; refine ⟨_, rfl, ?_⟩; have n0_ := Aside0.mk (blk_below (g := gb409) (o := .cells #[.int .u64 a0_0, .int .u64 a0_1, .int .i64 a0_2] 24 (0, 0)) (by (with_reducible repeat (first | refine qN ?_ _ | refine qD ?_ | refine qA ?_ _)); exact BK409.out) hb); have n1_ := Aside0.mk (blk_below (g := gb416) (o := .cells #[.int .u64 t412, .int .u64 t413, .int .i64 t414] 24 (0, 0)) (by (with_reducible repeat (first | refine qN ?_ _ | refine qD ?_ | refine qA ?_ _)); exact BK416.out) hb); have n2_ := Aside0.mk (below_step (by repeat (first | (with_reducible first | exact HB.out | apply pA | apply pN | apply pD | refine pS ?_ GE409.out | refine pS ?_ GE416.out) | exact HB.out)) hb); clear BK409; clear BK416; clear HB; have BK409 := n0_; have BK416 := n1_; have HB := n2_; clear n0_ n1_ n2_; (try clear hb); (try clear hb2); (try clear hk); (try clear hi)) | ((with_reducible refine gate_dst (N := 10) rfl ?_); refine box_event ?hg (N := 10) ?hd (cs := #[.int .u64 0, .int .u64 0, .int .i64 0]) (t := 24) ?hr ?_; (case hd => rfl); (case hg => rfl); (case hr => first | (go_simp; done) | (go_simp; rfl)); intro gb424 hg w51 hbox hb; have n0_ := Aside0.mk (blk_below (g := gb409) (o := .cells #[.int .u64 a0_0, .int .u64 a0_1, .int .i64 a0_2] 24 (0, 0)) (by (with_reducible repeat (first | refine qN ?_ _ | refine qD ?_ | refine qA ?_ _)); exact BK409.out) hb); have n1_ := Aside0.mk (blk_below (g := gb416) (o := .cells #[.int .u64 t412, .int .u64 t413, .int .i64 t414] 24 (0, 0)) (by (with_reducible repeat (first | refine qN ?_ _ | refine qD ?_ | refine qA ?_ _)); exact BK416.out) hb); have n2_ := Aside0.mk (below_step (by repeat (first | (with_reducible first | exact HB.out | apply pA | apply pN | apply pD | refine pS ?_ GE409.out | refine pS ?_ GE416.out) | exact HB.out)) hb); have n3_ := Aside0.mk (hbox); have n4_ := Aside0.mk ((by rw [hg]; exact (below_size (by repeat (first | (with_reducible first | exact HB.out | apply pA | apply pN | apply pD | refine pS ?_ GE409.out | refine pS ?_ GE416.out) | exact HB.out))) : w.heap.size ≤ gb424)); have n5_ := Aside0.mk ((by rw [hg]; exact (below_size (by repeat (first | (with_reducible first | exact HB.out | apply pA | apply pN | apply pD | refine pS ?_ GE409.out | refine pS ?_ GE416.out) | exact HB.out))) : w.heap.size ≤ gb424)); have n6_ := Aside0.mk ((by rw [hg]; exact Nat.ne_of_lt (blk_lt (g := gb409) (o := .cells #[.int .u64 a0_0, .int .u64 a0_1, .int .i64 a0_2] 24 (0, 0)) (by (with_reducible repeat (first | refine qN ?_ _ | refine qD ?_ | refine qA ?_ _)); exact BK409.out)) : gb409 ≠ gb424)); have n7_ := Aside0.mk ((by rw [hg]; exact Nat.ne_of_gt (blk_lt (g := gb409) (o := .cells #[.int .u64 a0_0, .int .u64 a0_1, .int .i64 a0_2] 24 (0, 0)) (by (with_reducible repeat (first | refine qN ?_ _ | refine qD ?_ | refine qA ?_ _)); exact BK409.out)) : gb424 ≠ gb409)); have n8_ := Aside0.mk ((by rw [hg]; exact Nat.ne_of_lt (blk_lt (g := gb416) (o := .cells #[.int .u64 t412, .int .u64 t413, .int .i64 t414] 24 (0, 0)) (by (with_reducible repeat (first | refine qN ?_ _ | refine qD ?_ | refine qA ?_ _)); exact BK416.out)) : gb416 ≠ gb424)); have n9_ := Aside0.mk ((by rw [hg]; exact Nat.ne_of_gt (blk_lt (g := gb416) (o := .cells #[.int .u64 t412, .int .u64 t413, .int .i64 t414] 24 (0, 0)) (by (with_reducible repeat (first | refine qN ?_ _ | refine qD ?_ | refine qA ?_ _)); exact BK416.out)) : gb424 ≠ gb416)); clear BK409; clear BK416; clear HB; have BK409 := n0_; have BK416 := n1_; have HB := n2_; have BK424 := n3_; have GW424 := n4_; have GE424 := n5_; have NB409_424 := n6_; have NB424_409 := n7_; have NB416_424 := n8_; have NB424_416 := n9_; clear n0_ n1_ n2_ n3_ n4_ n5_ n6_ n7_ n8_ n9_; clear hb hbox hg; have hnb52 := NB424_409.out; have hnc52 := NB409_424.out; have hnb53 := NB424_416.out; have hnc53 := NB416_424.out; have hcz54_0 : w51.cell? ⟨gb424, 0, none⟩ = some (.int .u64 0) := (blk_cell BK424.out 0).trans rfl; have hcz54_1 : w51.cell? ⟨gb424, 1, none⟩ = some (.int .u64 0) := (blk_cell BK424.out 1).trans rfl; have hcz54_2 : w51.cell? ⟨gb424, 2, none⟩ = some (.int .i64 0) := (blk_cell BK424.out 2).trans rfl; have hfz54_0 := blk_frozen BK424.out 0; have hfz54_1 := blk_frozen BK424.out 1; have hfz54_2 := blk_frozen BK424.out 2))
                      have n0_ : Aside0 ((((w51.setCell ⟨gb424, 0, none⟩ (.int .u64 t420)).setCell ⟨gb424, 1, none⟩ (.int .u64 t421)).setCell ⟨gb424, 2, none⟩ (.int .i64 t422)).heap[gb409]? = some (.cells #[.int .u64 a0_0, .int .u64 a0_1, .int .i64 a0_2] 24 (0, 0))) := ⟨by (with_reducible repeat (first | refine qN ?_ _ | refine qD ?_ | refine qA ?_ _)); refine blk_far ?_ NB409_424.out _; (with_reducible repeat (first | refine qN ?_ _ | refine qD ?_ | refine qA ?_ _)); refine blk_far ?_ NB409_424.out _; (with_reducible repeat (first | refine qN ?_ _ | refine qD ?_ | refine qA ?_ _)); refine blk_far ?_ NB409_424.out _; (with_reducible repeat (first | refine qN ?_ _ | refine qD ?_ | refine qA ?_ _)); exact BK409.out⟩
                      have n1_ : Aside0 ((((w51.setCell ⟨gb424, 0, none⟩ (.int .u64 t420)).setCell ⟨gb424, 1, none⟩ (.int .u64 t421)).setCell ⟨gb424, 2, none⟩ (.int .i64 t422)).heap[gb416]? = some (.cells #[.int .u64 t412, .int .u64 t413, .int .i64 t414] 24 (0, 0))) := ⟨by (with_reducible repeat (first | refine qN ?_ _ | refine qD ?_ | refine qA ?_ _)); refine blk_far ?_ NB416_424.out _; (with_reducible repeat (first | refine qN ?_ _ | refine qD ?_ | refine qA ?_ _)); refine blk_far ?_ NB416_424.out _; (with_reducible repeat (first | refine qN ?_ _ | refine qD ?_ | refine qA ?_ _)); refine blk_far ?_ NB416_424.out _; (with_reducible repeat (first | refine qN ?_ _ | refine qD ?_ | refine qA ?_ _)); exact BK416.out⟩
                      have n2_ : Aside0 ((((w51.setCell ⟨gb424, 0, none⟩ (.int .u64 t420)).setCell ⟨gb424, 1, none⟩ (.int .u64 t421)).setCell ⟨gb424, 2, none⟩ (.int .i64 t422)).heap[gb424]? = some (.cells #[.int .u64 t420, .int .u64 t421, .int .i64 t422] 24 (0, 0))) := ⟨by (with_reducible repeat (first | refine qN ?_ _ | refine qD ?_ | refine qA ?_ _)); refine blk_put (cs := #[.int .u64 t420, .int .u64 t421, .int .i64 0]) ?_ 2 _ rfl; (with_reducible repeat (first | refine qN ?_ _ | refine qD ?_ | refine qA ?_ _)); refine blk_put (cs := #[.int .u64 t420, .int .u64 0, .int .i64 0]) ?_ 1 _ rfl; (with_reducible repeat (first | refine qN ?_ _ | refine qD ?_ | refine qA ?_ _)); refine blk_put (cs := #[.int .u64 0, .int .u64 0, .int .i64 0]) ?_ 0 _ rfl; (with_reducible repeat (first | refine qN ?_ _ | refine qD ?_ | refine qA ?_ _)); exact BK424.out⟩
                      have n3_ : Aside0 (Below w.heap.size w (((w51.setCell ⟨gb424, 0, none⟩ (.int .u64 t420)).setCell ⟨gb424, 1, none⟩ (.int .u64 t421)).setCell ⟨gb424, 2, none⟩ (.int .i64 t422))) := ⟨by repeat (first | (with_reducible first | exact HB.out | apply pA | apply pN | apply pD | refine pS ?_ GE409.out | refine pS ?_ GE416.out | refine pS ?_ GE424.out) | exact HB.out)⟩
                      (try clear BK409)
                      (try clear BK416)
                      (try clear BK424)
                      (try clear HB)
                      generalize (((w51.setCell ⟨gb424, 0, none⟩ (.int .u64 t420)).setCell ⟨gb424, 1, none⟩ (.int .u64 t421)).setCell ⟨gb424, 2, none⟩ (.int .i64 t422)) = w55 at n0_ n1_ n2_ n3_ ⊢
                      have BK409 := n0_
                      have BK416 := n1_
                      have BK424 := n2_
                      have HB := n3_
                      clear n0_ n1_ n2_ n3_
                      have n0_ := Aside0.mk (qD BK409.out)
                      have n1_ := Aside0.mk (qD BK416.out)
                      have n2_ := Aside0.mk (qD BK424.out)
                      have n3_ := Aside0.mk (pD HB.out)
                      clear BK409
                      clear BK416
                      clear BK424
                      clear HB
                      have BK409 := n0_
                      have BK416 := n1_
                      have BK424 := n2_
                      have HB := n3_
                      clear n0_ n1_ n2_ n3_
                      refine start_ (n := 55) (S := fun w' => w'.cell? ⟨gb416, 0, none⟩ = some (.int .u64 t412) ∧ w'.cell? ⟨gb416, 1, none⟩ = some (.int .u64 t413) ∧ w'.cell? ⟨gb416, 2, none⟩ = some (.int .i64 t414) ∧ w'.cell? ⟨gb424, 0, none⟩ = some (.int .u64 t420) ∧ w'.cell? ⟨gb424, 1, none⟩ = some (.int .u64 t421) ∧ w'.cell? ⟨gb424, 2, none⟩ = some (.int .i64 t422) ∧ w'.cell? ⟨gb409, 0, none⟩ = some (.int .u64 a0_0) ∧ w'.cell? ⟨gb409, 1, none⟩ = some (.int .u64 a0_1) ∧ w'.cell? ⟨gb409, 2, none⟩ = some (.int .i64 a0_2)) (ds := []) #[oO, oO, oO, oO, oO, oO, oO, oO, oO, oO, oO, oO, oO, oO, oO, oO, oO, oO, oO, oO, oO, oO, oO, oO, oO, oO, oO, oO, oO, oO, oO, oO, oO, oO, oO, oO, oO, oO, oO, oO, oO, oO, oO, oO, oO, oO, oO, oO, oO, oO, oO, oO, oO, oO, oO] (by kernel_rfl) rfl rfl ⟨(blk_cell BK416.out 0).trans rfl, (blk_cell BK416.out 1).trans rfl, (blk_cell BK416.out 2).trans rfl, (blk_cell BK424.out 0).trans rfl, (blk_cell BK424.out 1).trans rfl, (blk_cell BK424.out 2).trans rfl, (blk_cell BK409.out 0).trans rfl, (blk_cell BK409.out 1).trans rfl, (blk_cell BK409.out 2).trans rfl⟩ (fun hHeld => ?_); refine with_tabW portreevelaw17_MeterTime.tab6 portreevelaw17_MeterTime.bits6 (fun HT_ HW_ => ?_)
                      generalize w55.drew = w56 at BK409 BK416 BK424 HB hHeld ⊢
                      refine pure_ (i := 0) (N := some 30) (v := ?_) (a' := ?_) #[oI, oO, oO, oO, oO, oO, oO, oO, oO, oO, oO, oO, oO, oO, oO, oO, oO, oO, oO, oO, oO, oO, oO, oO, oO, oO, oO, oO, oO, oO, oO, oO, oO, oO, oO, oO, oO, oO, oO, oO, oO, oO, oO, oO, oO, oO, oO, oO, oO, oO, oO, oO, oO, oO, oO] rfl rfl (any_of HT_.out (by kernel_rfl)) (fun _ _ _ h => h) (Or.inl ⟨by rfl, ?_⟩) ?_ ?_
                      rotate_left
                      · intro w'
                        go_simp
                        with_reducible rfl
                      rotate_left
                      · simp only [Act.put, List.setIfInBounds_toArray, List.set_cons_zero, List.set_cons_succ, i64_w, i32_w]
                        rfl
                      refine pure_ (i := 1) (N := some 31) (v := ?_) (a' := ?_) #[oI, oI, oO, oO, oO, oO, oO, oO, oO, oO, oO, oO, oO, oO, oO, oO, oO, oO, oO, oO, oO, oO, oO, oO, oO, oO, oO, oO, oO, oO, oO, oO, oO, oO, oO, oO, oO, oO, oO, oO, oO, oO, oO, oO, oO, oO, oO, oO, oO, oO, oO, oO, oO, oO, oO] rfl rfl (any_of HT_.out (by kernel_rfl)) (fun _ _ _ h => h) (Or.inl ⟨by rfl, ?_⟩) ?_ ?_
                      rotate_left
                      · intro w'
                        go_simp
                        with_reducible rfl
                      rotate_left
                      · simp only [Act.put, List.setIfInBounds_toArray, List.set_cons_zero, List.set_cons_succ, i64_w, i32_w]
                        rfl
                      refine pure_ (i := 2) (N := some 32) (v := ?_) (a' := ?_) #[oI, oI, oI, oO, oO, oO, oO, oO, oO, oO, oO, oO, oO, oO, oO, oO, oO, oO, oO, oO, oO, oO, oO, oO, oO, oO, oO, oO, oO, oO, oO, oO, oO, oO, oO, oO, oO, oO, oO, oO, oO, oO, oO, oO, oO, oO, oO, oO, oO, oO, oO, oO, oO, oO, oO] rfl rfl (any_of HT_.out (by kernel_rfl)) (fun _ _ _ h => h) (Or.inl ⟨by rfl, ?_⟩) ?_ ?_
                      rotate_left
                      · intro w'
                        go_simp
                        with_reducible rfl
                      rotate_left
                      · simp only [Act.put, List.setIfInBounds_toArray, List.set_cons_zero, List.set_cons_succ, i64_w, i32_w]
                        rfl
                      refine pure_ (i := 3) (N := some 33) (v := ?_) (a' := ?_) #[oI, oI, oI, oI, oO, oO, oO, oO, oO, oO, oO, oO, oO, oO, oO, oO, oO, oO, oO, oO, oO, oO, oO, oO, oO, oO, oO, oO, oO, oO, oO, oO, oO, oO, oO, oO, oO, oO, oO, oO, oO, oO, oO, oO, oO, oO, oO, oO, oO, oO, oO, oO, oO, oO, oO] rfl rfl (any_of HT_.out (by kernel_rfl)) (fun _ _ _ h => h) (Or.inl ⟨by rfl, ?_⟩) ?_ ?_
                      rotate_left
                      · intro w'
                        go_simp
                        with_reducible rfl
                      rotate_left
                      · simp only [Act.put, List.setIfInBounds_toArray, List.set_cons_zero, List.set_cons_succ, i64_w, i32_w]
                        rfl
                      refine pure_ (i := 4) (N := some 34) (v := ?_) (a' := ?_) #[oI, oI, oI, oI, oI, oO, oO, oO, oO, oO, oO, oO, oO, oO, oO, oO, oO, oO, oO, oO, oO, oO, oO, oO, oO, oO, oO, oO, oO, oO, oO, oO, oO, oO, oO, oO, oO, oO, oO, oO, oO, oO, oO, oO, oO, oO, oO, oO, oO, oO, oO, oO, oO, oO, oO] rfl rfl (any_of HT_.out (by kernel_rfl)) (fun _ _ _ h => h) (Or.inl ⟨by rfl, ?_⟩) ?_ ?_
                      rotate_left
                      · intro w'
                        go_simp
                        with_reducible rfl
                      rotate_left
                      · simp only [Act.put, List.setIfInBounds_toArray, List.set_cons_zero, List.set_cons_succ, i64_w, i32_w]
                        rfl
                      refine pure_ (i := 5) (N := some 35) (v := ?_) (a' := ?_) #[oI, oI, oI, oI, oI, oI, oO, oO, oO, oO, oO, oO, oO, oO, oO, oO, oO, oO, oO, oO, oO, oO, oO, oO, oO, oO, oO, oO, oO, oO, oO, oO, oO, oO, oO, oO, oO, oO, oO, oO, oO, oO, oO, oO, oO, oO, oO, oO, oO, oO, oO, oO, oO, oO, oO] rfl rfl (any_of HT_.out (by kernel_rfl)) (fun _ _ _ h => h) (Or.inl ⟨by rfl, ?_⟩) ?_ ?_
                      rotate_left
                      · intro w'
                        go_simp
                        with_reducible rfl
                      rotate_left
                      · simp only [Act.put, List.setIfInBounds_toArray, List.set_cons_zero, List.set_cons_succ, i64_w, i32_w]
                        rfl
                      refine pure_ (i := 6) (N := some 36) (v := ?_) (a' := ?_) #[oI, oI, oI, oI, oI, oI, oI, oO, oO, oO, oO, oO, oO, oO, oO, oO, oO, oO, oO, oO, oO, oO, oO, oO, oO, oO, oO, oO, oO, oO, oO, oO, oO, oO, oO, oO, oO, oO, oO, oO, oO, oO, oO, oO, oO, oO, oO, oO, oO, oO, oO, oO, oO, oO, oO] rfl rfl (any_of HT_.out (by kernel_rfl)) (fun _ _ _ h => h) (Or.inl ⟨by rfl, ?_⟩) ?_ ?_
                      rotate_left
                      · intro w'
                        go_simp
                        with_reducible rfl
                      rotate_left
                      · simp only [Act.put, List.setIfInBounds_toArray, List.set_cons_zero, List.set_cons_succ, i64_w, i32_w]
                        rfl
                      refine pure_ (i := 7) (N := some 37) (v := ?_) (a' := ?_) #[oI, oI, oI, oI, oI, oI, oI, oI, oO, oO, oO, oO, oO, oO, oO, oO, oO, oO, oO, oO, oO, oO, oO, oO, oO, oO, oO, oO, oO, oO, oO, oO, oO, oO, oO, oO, oO, oO, oO, oO, oO, oO, oO, oO, oO, oO, oO, oO, oO, oO, oO, oO, oO, oO, oO] rfl rfl (any_of HT_.out (by kernel_rfl)) (fun _ _ _ h => h) (Or.inl ⟨by rfl, ?_⟩) ?_ ?_
                      rotate_left
                      · intro w'
                        go_simp
                        with_reducible rfl
                      rotate_left
                      · simp only [Act.put, List.setIfInBounds_toArray, List.set_cons_zero, List.set_cons_succ, i64_w, i32_w]
                        rfl
                      refine pure_ (i := 9) (N := some 39) (v := ?_) (a' := ?_) #[oI, oI, oI, oI, oI, oI, oI, oI, oO, oI, oO, oO, oO, oO, oO, oO, oO, oO, oO, oO, oO, oO, oO, oO, oO, oO, oO, oO, oO, oO, oO, oO, oO, oO, oO, oO, oO, oO, oO, oO, oO, oO, oO, oO, oO, oO, oO, oO, oO, oO, oO, oO, oO, oO, oO] rfl rfl (any_of HT_.out (by kernel_rfl)) (fun _ _ _ h => h) (Or.inl ⟨by rfl, ?_⟩) ?_ ?_
                      rotate_left
                      · intro w'
                        go_simp
                        with_reducible rfl
                      rotate_left
                      · simp only [Act.put, List.setIfInBounds_toArray, List.set_cons_zero, List.set_cons_succ, i64_w, i32_w]
                        rfl
                      refine take_ (i := 8) (N := some 38) (v := ?_) (a' := ?_) #[oI, oI, oI, oI, oI, oI, oI, oI, oI, oI, oO, oO, oO, oO, oO, oO, oO, oO, oO, oO, oO, oO, oO, oO, oO, oO, oO, oO, oO, oO, oO, oO, oO, oO, oO, oO, oO, oO, oO, oO, oO, oO, oO, oO, oO, oO, oO, oO, oO, oO, oO, oO, oO, oO, oO] rfl rfl (take_ofW HT_.out HW_.out (by kernel_rfl)) (fun _ _ _ h => h) (Or.inl ⟨by rfl, ?_⟩) hHeld ?_ ?_
                      rotate_left
                      · rintro w' ⟨s0, s1, s2, s3, s4, s5, s6, s7, s8⟩
                        go_simp
                        with_reducible rfl
                      rotate_left
                      · simp only [Act.put, List.setIfInBounds_toArray, List.set_cons_zero, List.set_cons_succ, i64_w, i32_w]
                        rfl
                      refine take_ (i := 10) (N := some 40) (v := ?_) (a' := ?_) #[oI, oI, oI, oI, oI, oI, oI, oI, oI, oI, oI, oO, oO, oO, oO, oO, oO, oO, oO, oO, oO, oO, oO, oO, oO, oO, oO, oO, oO, oO, oO, oO, oO, oO, oO, oO, oO, oO, oO, oO, oO, oO, oO, oO, oO, oO, oO, oO, oO, oO, oO, oO, oO, oO, oO] rfl rfl (take_ofW HT_.out HW_.out (by kernel_rfl)) (fun _ _ _ h => h) (Or.inl ⟨by rfl, ?_⟩) hHeld ?_ ?_
                      rotate_left
                      · rintro w' ⟨s0, s1, s2, s3, s4, s5, s6, s7, s8⟩
                        go_simp
                        with_reducible rfl
                      rotate_left
                      · simp only [Act.put, List.setIfInBounds_toArray, List.set_cons_zero, List.set_cons_succ, i64_w, i32_w]
                        rfl
                      refine pure_ (i := 11) (N := some 41) (v := ?_) (a' := ?_) #[oI, oI, oI, oI, oI, oI, oI, oI, oI, oI, oI, oI, oO, oO, oO, oO, oO, oO, oO, oO, oO, oO, oO, oO, oO, oO, oO, oO, oO, oO, oO, oO, oO, oO, oO, oO, oO, oO, oO, oO, oO, oO, oO, oO, oO, oO, oO, oO, oO, oO, oO, oO, oO, oO, oO] rfl rfl (any_of HT_.out (by kernel_rfl)) (fun _ _ _ h => h) (Or.inl ⟨by rfl, ?_⟩) ?_ ?_
                      rotate_left
                      · intro w'
                        go_simp
                        with_reducible rfl
                      rotate_left
                      · simp only [Act.put, List.setIfInBounds_toArray, List.set_cons_zero, List.set_cons_succ, i64_w, i32_w]
                        rfl
                      refine pure_ (i := 12) (N := some 42) (v := ?_) (a' := ?_) #[oI, oI, oI, oI, oI, oI, oI, oI, oI, oI, oI, oI, oI, oO, oO, oO, oO, oO, oO, oO, oO, oO, oO, oO, oO, oO, oO, oO, oO, oO, oO, oO, oO, oO, oO, oO, oO, oO, oO, oO, oO, oO, oO, oO, oO, oO, oO, oO, oO, oO, oO, oO, oO, oO, oO] rfl rfl (any_of HT_.out (by kernel_rfl)) (fun _ _ _ h => h) (Or.inl ⟨by rfl, ?_⟩) ?_ ?_
                      rotate_left
                      · intro w'
                        go_simp
                        with_reducible rfl
                      rotate_left
                      · simp only [Act.put, List.setIfInBounds_toArray, List.set_cons_zero, List.set_cons_succ, i64_w, i32_w]
                        rfl
                      refine pure_ (i := 13) (N := some 43) (v := ?_) (a' := ?_) #[oI, oI, oI, oI, oI, oI, oI, oI, oI, oI, oI, oI, oI, oI, oO, oO, oO, oO, oO, oO, oO, oO, oO, oO, oO, oO, oO, oO, oO, oO, oO, oO, oO, oO, oO, oO, oO, oO, oO, oO, oO, oO, oO, oO, oO, oO, oO, oO, oO, oO, oO, oO, oO, oO, oO] rfl rfl (any_of HT_.out (by kernel_rfl)) (fun _ _ _ h => h) (Or.inl ⟨by rfl, ?_⟩) ?_ ?_
                      rotate_left
                      · intro w'
                        go_simp
                        with_reducible rfl
                      rotate_left
                      · simp only [Act.put, List.setIfInBounds_toArray, List.set_cons_zero, List.set_cons_succ, i64_w, i32_w]
                        rfl
                      refine pure_ (i := 15) (N := some 45) (v := ?_) (a' := ?_) #[oI, oI, oI, oI, oI, oI, oI, oI, oI, oI, oI, oI, oI, oI, oO, oI, oO, oO, oO, oO, oO, oO, oO, oO, oO, oO, oO, oO, oO, oO, oO, oO, oO, oO, oO, oO, oO, oO, oO, oO, oO, oO, oO, oO, oO, oO, oO, oO, oO, oO, oO, oO, oO, oO, oO] rfl rfl (any_of HT_.out (by kernel_rfl)) (fun _ _ _ h => h) (Or.inl ⟨by rfl, ?_⟩) ?_ ?_
                      rotate_left
                      · intro w'
                        go_simp
                        with_reducible rfl
                      rotate_left
                      · simp only [Act.put, List.setIfInBounds_toArray, List.set_cons_zero, List.set_cons_succ, i64_w, i32_w]
                        rfl
                      refine pure_ (i := 16) (N := some 46) (v := ?_) (a' := ?_) #[oI, oI, oI, oI, oI, oI, oI, oI, oI, oI, oI, oI, oI, oI, oO, oI, oI, oO, oO, oO, oO, oO, oO, oO, oO, oO, oO, oO, oO, oO, oO, oO, oO, oO, oO, oO, oO, oO, oO, oO, oO, oO, oO, oO, oO, oO, oO, oO, oO, oO, oO, oO, oO, oO, oO] rfl rfl (any_of HT_.out (by kernel_rfl)) (fun _ _ _ h => h) (Or.inl ⟨by rfl, ?_⟩) ?_ ?_
                      rotate_left
                      · intro w'
                        go_simp
                        with_reducible rfl
                      rotate_left
                      · simp only [Act.put, List.setIfInBounds_toArray, List.set_cons_zero, List.set_cons_succ, i64_w, i32_w]
                        rfl
                      refine take_ (i := 14) (N := some 44) (v := ?_) (a' := ?_) #[oI, oI, oI, oI, oI, oI, oI, oI, oI, oI, oI, oI, oI, oI, oI, oI, oI, oO, oO, oO, oO, oO, oO, oO, oO, oO, oO, oO, oO, oO, oO, oO, oO, oO, oO, oO, oO, oO, oO, oO, oO, oO, oO, oO, oO, oO, oO, oO, oO, oO, oO, oO, oO, oO, oO] rfl rfl (take_ofW HT_.out HW_.out (by kernel_rfl)) (fun _ _ _ h => h) (Or.inl ⟨by rfl, ?_⟩) hHeld ?_ ?_
                      rotate_left
                      · rintro w' ⟨s0, s1, s2, s3, s4, s5, s6, s7, s8⟩
                        go_simp
                        with_reducible rfl
                      rotate_left
                      · simp only [Act.put, List.setIfInBounds_toArray, List.set_cons_zero, List.set_cons_succ, i64_w, i32_w]
                        rfl
                      refine take_ (i := 18) (N := some 48) (v := ?_) (a' := ?_) #[oI, oI, oI, oI, oI, oI, oI, oI, oI, oI, oI, oI, oI, oI, oI, oI, oI, oO, oI, oO, oO, oO, oO, oO, oO, oO, oO, oO, oO, oO, oO, oO, oO, oO, oO, oO, oO, oO, oO, oO, oO, oO, oO, oO, oO, oO, oO, oO, oO, oO, oO, oO, oO, oO, oO] rfl rfl (take_ofW HT_.out HW_.out (by kernel_rfl)) (fun _ _ _ h => h) (Or.inl ⟨by rfl, ?_⟩) hHeld ?_ ?_
                      rotate_left
                      · rintro w' ⟨s0, s1, s2, s3, s4, s5, s6, s7, s8⟩
                        go_simp
                        with_reducible rfl
                      rotate_left
                      · simp only [Act.put, List.setIfInBounds_toArray, List.set_cons_zero, List.set_cons_succ, i64_w, i32_w]
                        rfl
                      refine one_ (i := 17) (N := some 47) #[oI, oI, oI, oI, oI, oI, oI, oI, oI, oI, oI, oI, oI, oI, oI, oI, oI, oI, oI, oO, oO, oO, oO, oO, oO, oO, oO, oO, oO, oO, oO, oO, oO, oO, oO, oO, oO, oO, oO, oO, oO, oO, oO, oO, oO, oO, oO, oO, oO, oO, oO, oO, oO, oO, oO] rfl rfl (one_of HT_.out (by kernel_rfl)) (by decide) (fun K hK => ?_)
                      refine goes_ Try.func16 (by kernel_rfl) rfl #[.agg #[.int .u64 t412, .int .u64 t413, .int .i64 t414], .int .i64 a1, .int .i64 a2] (by rfl) rfl rfl (by (try simp only [List.map_toArray, List.map_cons, List.map_nil]); first | done | rfl | (simp only [List.length_drop, List.length_take]; rfl)) ?_
                      with_reducible refine (meter_Count.calls t412 t413 t414 a1 a2 t425 t426 t427 _ A13.out).mono ?_
                      rintro e w57 ⟨rfl, hb⟩
                      refine ⟨_, rfl, ?_⟩
                      have n0_ := Aside0.mk (blk_below (g := gb409) (o := .cells #[.int .u64 a0_0, .int .u64 a0_1, .int .i64 a0_2] 24 (0, 0)) (by (with_reducible repeat (first | refine qN ?_ _ | refine qD ?_ | refine qA ?_ _)); exact BK409.out) hb)
                      have n1_ := Aside0.mk (blk_below (g := gb416) (o := .cells #[.int .u64 t412, .int .u64 t413, .int .i64 t414] 24 (0, 0)) (by (with_reducible repeat (first | refine qN ?_ _ | refine qD ?_ | refine qA ?_ _)); exact BK416.out) hb)
                      have n2_ := Aside0.mk (blk_below (g := gb424) (o := .cells #[.int .u64 t420, .int .u64 t421, .int .i64 t422] 24 (0, 0)) (by (with_reducible repeat (first | refine qN ?_ _ | refine qD ?_ | refine qA ?_ _)); exact BK424.out) hb)
                      have n3_ := Aside0.mk (below_step (by repeat (first | (with_reducible first | exact HB.out | apply pA | apply pN | apply pD | refine pS ?_ GE409.out | refine pS ?_ GE416.out | refine pS ?_ GE424.out) | exact HB.out)) hb)
                      clear BK409
                      clear BK416
                      clear BK424
                      clear HB
                      have BK409 := n0_
                      have BK416 := n1_
                      have BK424 := n2_
                      have HB := n3_
                      clear n0_ n1_ n2_ n3_
                      (try clear hb)
                      (try clear hb2)
                      (try clear hk)
                      (try clear hi)
                      refine hK.out _ _ ⟨(blk_cell BK416.out 0).trans rfl, (blk_cell BK416.out 1).trans rfl, (blk_cell BK416.out 2).trans rfl, (blk_cell BK424.out 0).trans rfl, (blk_cell BK424.out 1).trans rfl, (blk_cell BK424.out 2).trans rfl, (blk_cell BK409.out 0).trans rfl, (blk_cell BK409.out 1).trans rfl, (blk_cell BK409.out 2).trans rfl⟩ (fun hHeld => ?_)
                      clear hK K
                      refine norm_ (a' := ?_) ?_ ?_
                      rotate_left
                      · show Act.put _ (some 47) _ = _
                        simp only [Act.put, List.setIfInBounds_toArray, List.set_cons_zero, List.set_cons_succ, i64_w, i32_w]
                        rfl
                      refine pure_ (i := 19) (N := some 49) (v := ?_) (a' := ?_) #[oI, oI, oI, oI, oI, oI, oI, oI, oI, oI, oI, oI, oI, oI, oI, oI, oI, oI, oI, oI, oO, oO, oO, oO, oO, oO, oO, oO, oO, oO, oO, oO, oO, oO, oO, oO, oO, oO, oO, oO, oO, oO, oO, oO, oO, oO, oO, oO, oO, oO, oO, oO, oO, oO, oO] rfl rfl (any_of HT_.out (by kernel_rfl)) (fun _ _ _ h => h) (Or.inl ⟨by rfl, ?_⟩) ?_ ?_
                      rotate_left
                      · intro w'
                        go_simp
                        with_reducible rfl
                      rotate_left
                      · simp only [Act.put, List.setIfInBounds_toArray, List.set_cons_zero, List.set_cons_succ, i64_w, i32_w]
                        rfl
                      refine pure_ (i := 20) (N := some 50) (v := ?_) (a' := ?_) #[oI, oI, oI, oI, oI, oI, oI, oI, oI, oI, oI, oI, oI, oI, oI, oI, oI, oI, oI, oI, oI, oO, oO, oO, oO, oO, oO, oO, oO, oO, oO, oO, oO, oO, oO, oO, oO, oO, oO, oO, oO, oO, oO, oO, oO, oO, oO, oO, oO, oO, oO, oO, oO, oO, oO] rfl rfl (any_of HT_.out (by kernel_rfl)) (fun _ _ _ h => h) (Or.inl ⟨by rfl, ?_⟩) ?_ ?_
                      rotate_left
                      · intro w'
                        go_simp
                        with_reducible rfl
                      rotate_left
                      · simp only [Act.put, List.setIfInBounds_toArray, List.set_cons_zero, List.set_cons_succ, i64_w, i32_w]
                        rfl
                      refine pure_ (i := 21) (N := some 51) (v := ?_) (a' := ?_) #[oI, oI, oI, oI, oI, oI, oI, oI, oI, oI, oI, oI, oI, oI, oI, oI, oI, oI, oI, oI, oI, oI, oO, oO, oO, oO, oO, oO, oO, oO, oO, oO, oO, oO, oO, oO, oO, oO, oO, oO, oO, oO, oO, oO, oO, oO, oO, oO, oO, oO, oO, oO, oO, oO, oO] rfl rfl (any_of HT_.out (by kernel_rfl)) (fun _ _ _ h => h) (Or.inl ⟨by rfl, ?_⟩) ?_ ?_
                      rotate_left
                      · intro w'
                        go_simp
                        with_reducible rfl
                      rotate_left
                      · simp only [Act.put, List.setIfInBounds_toArray, List.set_cons_zero, List.set_cons_succ, i64_w, i32_w]
                        rfl
                      refine pure_ (i := 22) (N := some 52) (v := ?_) (a' := ?_) #[oI, oI, oI, oI, oI, oI, oI, oI, oI, oI, oI, oI, oI, oI, oI, oI, oI, oI, oI, oI, oI, oI, oI, oO, oO, oO, oO, oO, oO, oO, oO, oO, oO, oO, oO, oO, oO, oO, oO, oO, oO, oO, oO, oO, oO, oO, oO, oO, oO, oO, oO, oO, oO, oO, oO] rfl rfl (any_of HT_.out (by kernel_rfl)) (fun _ _ _ h => h) (Or.inl ⟨by rfl, ?_⟩) ?_ ?_
                      rotate_left
                      · intro w'
                        go_simp
                        with_reducible rfl
                      rotate_left
                      · simp only [Act.put, List.setIfInBounds_toArray, List.set_cons_zero, List.set_cons_succ, i64_w, i32_w]
                        rfl
                      refine pure_ (i := 24) (N := some 54) (v := ?_) (a' := ?_) #[oI, oI, oI, oI, oI, oI, oI, oI, oI, oI, oI, oI, oI, oI, oI, oI, oI, oI, oI, oI, oI, oI, oI, oO, oI, oO, oO, oO, oO, oO, oO, oO, oO, oO, oO, oO, oO, oO, oO, oO, oO, oO, oO, oO, oO, oO, oO, oO, oO, oO, oO, oO, oO, oO, oO] rfl rfl (any_of HT_.out (by kernel_rfl)) (fun _ _ _ h => h) (Or.inl ⟨by rfl, ?_⟩) ?_ ?_
                      rotate_left
                      · intro w'
                        go_simp
                        with_reducible rfl
                      rotate_left
                      · simp only [Act.put, List.setIfInBounds_toArray, List.set_cons_zero, List.set_cons_succ, i64_w, i32_w]
                        rfl
                      refine take_ (i := 23) (N := some 53) (v := ?_) (a' := ?_) #[oI, oI, oI, oI, oI, oI, oI, oI, oI, oI, oI, oI, oI, oI, oI, oI, oI, oI, oI, oI, oI, oI, oI, oI, oI, oO, oO, oO, oO, oO, oO, oO, oO, oO, oO, oO, oO, oO, oO, oO, oO, oO, oO, oO, oO, oO, oO, oO, oO, oO, oO, oO, oO, oO, oO] rfl rfl (take_ofW HT_.out HW_.out (by kernel_rfl)) (fun _ _ _ h => h) (Or.inl ⟨by rfl, ?_⟩) hHeld ?_ ?_
                      rotate_left
                      · rintro w' ⟨s0, s1, s2, s3, s4, s5, s6, s7, s8⟩
                        go_simp
                        with_reducible rfl
                      rotate_left
                      · simp only [Act.put, List.setIfInBounds_toArray, List.set_cons_zero, List.set_cons_succ, i64_w, i32_w]
                        rfl
                      refine take_ (i := 25) (N := some 55) (v := ?_) (a' := ?_) #[oI, oI, oI, oI, oI, oI, oI, oI, oI, oI, oI, oI, oI, oI, oI, oI, oI, oI, oI, oI, oI, oI, oI, oI, oI, oI, oO, oO, oO, oO, oO, oO, oO, oO, oO, oO, oO, oO, oO, oO, oO, oO, oO, oO, oO, oO, oO, oO, oO, oO, oO, oO, oO, oO, oO] rfl rfl (take_ofW HT_.out HW_.out (by kernel_rfl)) (fun _ _ _ h => h) (Or.inl ⟨by rfl, ?_⟩) hHeld ?_ ?_
                      rotate_left
                      · rintro w' ⟨s0, s1, s2, s3, s4, s5, s6, s7, s8⟩
                        go_simp
                        with_reducible rfl
                      rotate_left
                      · simp only [Act.put, List.setIfInBounds_toArray, List.set_cons_zero, List.set_cons_succ, i64_w, i32_w]
                        rfl
                      refine pure_ (i := 26) (N := some 56) (v := ?_) (a' := ?_) #[oI, oI, oI, oI, oI, oI, oI, oI, oI, oI, oI, oI, oI, oI, oI, oI, oI, oI, oI, oI, oI, oI, oI, oI, oI, oI, oI, oO, oO, oO, oO, oO, oO, oO, oO, oO, oO, oO, oO, oO, oO, oO, oO, oO, oO, oO, oO, oO, oO, oO, oO, oO, oO, oO, oO] rfl rfl (any_of HT_.out (by kernel_rfl)) (fun _ _ _ h => h) (Or.inl ⟨by rfl, ?_⟩) ?_ ?_
                      rotate_left
                      · intro w'
                        go_simp
                        with_reducible rfl
                      rotate_left
                      · simp only [Act.put, List.setIfInBounds_toArray, List.set_cons_zero, List.set_cons_succ, i64_w, i32_w]
                        rfl
                      refine pure_ (i := 27) (N := some 57) (v := ?_) (a' := ?_) #[oI, oI, oI, oI, oI, oI, oI, oI, oI, oI, oI, oI, oI, oI, oI, oI, oI, oI, oI, oI, oI, oI, oI, oI, oI, oI, oI, oI, oO, oO, oO, oO, oO, oO, oO, oO, oO, oO, oO, oO, oO, oO, oO, oO, oO, oO, oO, oO, oO, oO, oO, oO, oO, oO, oO] rfl rfl (any_of HT_.out (by kernel_rfl)) (fun _ _ _ h => h) (Or.inl ⟨by rfl, ?_⟩) ?_ ?_
                      rotate_left
                      · intro w'
                        go_simp
                        with_reducible rfl
                      rotate_left
                      · simp only [Act.put, List.setIfInBounds_toArray, List.set_cons_zero, List.set_cons_succ, i64_w, i32_w]
                        rfl
                      refine pure_ (i := 28) (N := some 58) (v := ?_) (a' := ?_) #[oI, oI, oI, oI, oI, oI, oI, oI, oI, oI, oI, oI, oI, oI, oI, oI, oI, oI, oI, oI, oI, oI, oI, oI, oI, oI, oI, oI, oI, oO, oO, oO, oO, oO, oO, oO, oO, oO, oO, oO, oO, oO, oO, oO, oO, oO, oO, oO, oO, oO, oO, oO, oO, oO, oO] rfl rfl (any_of HT_.out (by kernel_rfl)) (fun _ _ _ h => h) (Or.inl ⟨by rfl, ?_⟩) ?_ ?_
                      rotate_left
                      · intro w'
                        go_simp
                        with_reducible rfl
                      rotate_left
                      · simp only [Act.put, List.setIfInBounds_toArray, List.set_cons_zero, List.set_cons_succ, i64_w, i32_w]
                        rfl
                      refine pure_ (i := 29) (N := some 59) (v := ?_) (a' := ?_) #[oI, oI, oI, oI, oI, oI, oI, oI, oI, oI, oI, oI, oI, oI, oI, oI, oI, oI, oI, oI, oI, oI, oI, oI, oI, oI, oI, oI, oI, oI, oO, oO, oO, oO, oO, oO, oO, oO, oO, oO, oO, oO, oO, oO, oO, oO, oO, oO, oO, oO, oO, oO, oO, oO, oO] rfl rfl (any_of HT_.out (by kernel_rfl)) (fun _ _ _ h => h) (Or.inl ⟨by rfl, ?_⟩) ?_ ?_
                      rotate_left
                      · intro w'
                        go_simp
                        with_reducible rfl
                      rotate_left
                      · simp only [Act.put, List.setIfInBounds_toArray, List.set_cons_zero, List.set_cons_succ, i64_w, i32_w]
                        rfl
                      refine pure_ (i := 31) (N := some 61) (v := ?_) (a' := ?_) #[oI, oI, oI, oI, oI, oI, oI, oI, oI, oI, oI, oI, oI, oI, oI, oI, oI, oI, oI, oI, oI, oI, oI, oI, oI, oI, oI, oI, oI, oI, oO, oI, oO, oO, oO, oO, oO, oO, oO, oO, oO, oO, oO, oO, oO, oO, oO, oO, oO, oO, oO, oO, oO, oO, oO] rfl rfl (any_of HT_.out (by kernel_rfl)) (fun _ _ _ h => h) (Or.inl ⟨by rfl, ?_⟩) ?_ ?_
                      rotate_left
                      · intro w'
                        go_simp
                        with_reducible rfl
                      rotate_left
                      · simp only [Act.put, List.setIfInBounds_toArray, List.set_cons_zero, List.set_cons_succ, i64_w, i32_w]
                        rfl
                      refine take_ (i := 30) (N := some 60) (v := ?_) (a' := ?_) #[oI, oI, oI, oI, oI, oI, oI, oI, oI, oI, oI, oI, oI, oI, oI, oI, oI, oI, oI, oI, oI, oI, oI, oI, oI, oI, oI, oI, oI, oI, oI, oI, oO, oO, oO, oO, oO, oO, oO, oO, oO, oO, oO, oO, oO, oO, oO, oO, oO, oO, oO, oO, oO, oO, oO] rfl rfl (take_ofW HT_.out HW_.out (by kernel_rfl)) (fun _ _ _ h => h) (Or.inl ⟨by rfl, ?_⟩) hHeld ?_ ?_
                      rotate_left
                      · rintro w' ⟨s0, s1, s2, s3, s4, s5, s6, s7, s8⟩
                        go_simp
                        with_reducible rfl
                      rotate_left
                      · simp only [Act.put, List.setIfInBounds_toArray, List.set_cons_zero, List.set_cons_succ, i64_w, i32_w]
                        rfl
                      refine take_ (i := 32) (N := some 62) (v := ?_) (a' := ?_) #[oI, oI, oI, oI, oI, oI, oI, oI, oI, oI, oI, oI, oI, oI, oI, oI, oI, oI, oI, oI, oI, oI, oI, oI, oI, oI, oI, oI, oI, oI, oI, oI, oI, oO, oO, oO, oO, oO, oO, oO, oO, oO, oO, oO, oO, oO, oO, oO, oO, oO, oO, oO, oO, oO, oO] rfl rfl (take_ofW HT_.out HW_.out (by kernel_rfl)) (fun _ _ _ h => h) (Or.inl ⟨by rfl, ?_⟩) hHeld ?_ ?_
                      rotate_left
                      · rintro w' ⟨s0, s1, s2, s3, s4, s5, s6, s7, s8⟩
                        go_simp
                        with_reducible rfl
                      rotate_left
                      · simp only [Act.put, List.setIfInBounds_toArray, List.set_cons_zero, List.set_cons_succ, i64_w, i32_w]
                        rfl
                      refine pure_ (i := 33) (N := some 63) (v := ?_) (a' := ?_) #[oI, oI, oI, oI, oI, oI, oI, oI, oI, oI, oI, oI, oI, oI, oI, oI, oI, oI, oI, oI, oI, oI, oI, oI, oI, oI, oI, oI, oI, oI, oI, oI, oI, oI, oO, oO, oO, oO, oO, oO, oO, oO, oO, oO, oO, oO, oO, oO, oO, oO, oO, oO, oO, oO, oO] rfl rfl (any_of HT_.out (by kernel_rfl)) (fun _ _ _ h => h) (Or.inl ⟨by rfl, ?_⟩) ?_ ?_
                      rotate_left
                      · intro w'
                        go_simp
                        with_reducible rfl
                      rotate_left
                      · simp only [Act.put, List.setIfInBounds_toArray, List.set_cons_zero, List.set_cons_succ, i64_w, i32_w]
                        rfl
                      refine pure_ (i := 34) (N := some 64) (v := ?_) (a' := ?_) #[oI, oI, oI, oI, oI, oI, oI, oI, oI, oI, oI, oI, oI, oI, oI, oI, oI, oI, oI, oI, oI, oI, oI, oI, oI, oI, oI, oI, oI, oI, oI, oI, oI, oI, oI, oO, oO, oO, oO, oO, oO, oO, oO, oO, oO, oO, oO, oO, oO, oO, oO, oO, oO, oO, oO] rfl rfl (any_of HT_.out (by kernel_rfl)) (fun _ _ _ h => h) (Or.inl ⟨by rfl, ?_⟩) ?_ ?_
                      rotate_left
                      · intro w'
                        go_simp
                        with_reducible rfl
                      rotate_left
                      · simp only [Act.put, List.setIfInBounds_toArray, List.set_cons_zero, List.set_cons_succ, i64_w, i32_w]
                        rfl
                      refine pure_ (i := 35) (N := some 65) (v := ?_) (a' := ?_) #[oI, oI, oI, oI, oI, oI, oI, oI, oI, oI, oI, oI, oI, oI, oI, oI, oI, oI, oI, oI, oI, oI, oI, oI, oI, oI, oI, oI, oI, oI, oI, oI, oI, oI, oI, oI, oO, oO, oO, oO, oO, oO, oO, oO, oO, oO, oO, oO, oO, oO, oO, oO, oO, oO, oO] rfl rfl (any_of HT_.out (by kernel_rfl)) (fun _ _ _ h => h) (Or.inl ⟨by rfl, ?_⟩) ?_ ?_
                      rotate_left
                      · intro w'
                        go_simp
                        with_reducible rfl
                      rotate_left
                      · simp only [Act.put, List.setIfInBounds_toArray, List.set_cons_zero, List.set_cons_succ, i64_w, i32_w]
                        rfl
                      refine pure_ (i := 36) (N := some 66) (v := ?_) (a' := ?_) #[oI, oI, oI, oI, oI, oI, oI, oI, oI, oI, oI, oI, oI, oI, oI, oI, oI, oI, oI, oI, oI, oI, oI, oI, oI, oI, oI, oI, oI, oI, oI, oI, oI, oI, oI, oI, oI, oO, oO, oO, oO, oO, oO, oO, oO, oO, oO, oO, oO, oO, oO, oO, oO, oO, oO] rfl rfl (any_of HT_.out (by kernel_rfl)) (fun _ _ _ h => h) (Or.inl ⟨by rfl, ?_⟩) ?_ ?_
                      rotate_left
                      · intro w'
                        go_simp
                        with_reducible rfl
                      rotate_left
                      · simp only [Act.put, List.setIfInBounds_toArray, List.set_cons_zero, List.set_cons_succ, i64_w, i32_w]
                        rfl
                      refine pure_ (i := 37) (N := some 67) (v := ?_) (a' := ?_) #[oI, oI, oI, oI, oI, oI, oI, oI, oI, oI, oI, oI, oI, oI, oI, oI, oI, oI, oI, oI, oI, oI, oI, oI, oI, oI, oI, oI, oI, oI, oI, oI, oI, oI, oI, oI, oI, oI, oO, oO, oO, oO, oO, oO, oO, oO, oO, oO, oO, oO, oO, oO, oO, oO, oO] rfl rfl (any_of HT_.out (by kernel_rfl)) (fun _ _ _ h => h) (Or.inl ⟨by rfl, ?_⟩) ?_ ?_
                      rotate_left
                      · intro w'
                        go_simp
                        with_reducible rfl
                      rotate_left
                      · simp only [Act.put, List.setIfInBounds_toArray, List.set_cons_zero, List.set_cons_succ, i64_w, i32_w]
                        rfl
                      refine pure_ (i := 38) (N := some 68) (v := ?_) (a' := ?_) #[oI, oI, oI, oI, oI, oI, oI, oI, oI, oI, oI, oI, oI, oI, oI, oI, oI, oI, oI, oI, oI, oI, oI, oI, oI, oI, oI, oI, oI, oI, oI, oI, oI, oI, oI, oI, oI, oI, oI, oO, oO, oO, oO, oO, oO, oO, oO, oO, oO, oO, oO, oO, oO, oO, oO] rfl rfl (any_of HT_.out (by kernel_rfl)) (fun _ _ _ h => h) (Or.inl ⟨by rfl, ?_⟩) ?_ ?_
                      rotate_left
                      · intro w'
                        go_simp
                        with_reducible rfl
                      rotate_left
                      · simp only [Act.put, List.setIfInBounds_toArray, List.set_cons_zero, List.set_cons_succ, i64_w, i32_w]
                        rfl
                      refine pure_ (i := 39) (N := some 69) (v := ?_) (a' := ?_) #[oI, oI, oI, oI, oI, oI, oI, oI, oI, oI, oI, oI, oI, oI, oI, oI, oI, oI, oI, oI, oI, oI, oI, oI, oI, oI, oI, oI, oI, oI, oI, oI, oI, oI, oI, oI, oI, oI, oI, oI, oO, oO, oO, oO, oO, oO, oO, oO, oO, oO, oO, oO, oO, oO, oO] rfl rfl (any_of HT_.out (by kernel_rfl)) (fun _ _ _ h => h) (Or.inl ⟨by rfl, ?_⟩) ?_ ?_
                      rotate_left
                      · intro w'
                        go_simp
                        with_reducible rfl
                      rotate_left
                      · simp only [Act.put, List.setIfInBounds_toArray, List.set_cons_zero, List.set_cons_succ, i64_w, i32_w]
                        rfl
                      refine take_ (i := 40) (N := some 70) (v := ?_) (a' := ?_) #[oI, oI, oI, oI, oI, oI, oI, oI, oI, oI, oI, oI, oI, oI, oI, oI, oI, oI, oI, oI, oI, oI, oI, oI, oI, oI, oI, oI, oI, oI, oI, oI, oI, oI, oI, oI, oI, oI, oI, oI, oI, oO, oO, oO, oO, oO, oO, oO, oO, oO, oO, oO, oO, oO, oO] rfl rfl (take_ofW HT_.out HW_.out (by kernel_rfl)) (fun _ _ _ h => h) (Or.inl ⟨by rfl, ?_⟩) hHeld ?_ ?_
                      rotate_left
                      · rintro w' ⟨s0, s1, s2, s3, s4, s5, s6, s7, s8⟩
                        go_simp
                        with_reducible rfl
                      rotate_left
                      · simp only [Act.put, List.setIfInBounds_toArray, List.set_cons_zero, List.set_cons_succ, i64_w, i32_w]
                        rfl
                      refine pure_ (i := 41) (N := some 71) (v := ?_) (a' := ?_) #[oI, oI, oI, oI, oI, oI, oI, oI, oI, oI, oI, oI, oI, oI, oI, oI, oI, oI, oI, oI, oI, oI, oI, oI, oI, oI, oI, oI, oI, oI, oI, oI, oI, oI, oI, oI, oI, oI, oI, oI, oI, oI, oO, oO, oO, oO, oO, oO, oO, oO, oO, oO, oO, oO, oO] rfl rfl (any_of HT_.out (by kernel_rfl)) (fun _ _ _ h => h) (Or.inl ⟨by rfl, ?_⟩) ?_ ?_
                      rotate_left
                      · intro w'
                        go_simp
                        with_reducible rfl
                      rotate_left
                      · simp only [Act.put, List.setIfInBounds_toArray, List.set_cons_zero, List.set_cons_succ, i64_w, i32_w]
                        rfl
                      refine pure_ (i := 42) (N := some 72) (v := ?_) (a' := ?_) #[oI, oI, oI, oI, oI, oI, oI, oI, oI, oI, oI, oI, oI, oI, oI, oI, oI, oI, oI, oI, oI, oI, oI, oI, oI, oI, oI, oI, oI, oI, oI, oI, oI, oI, oI, oI, oI, oI, oI, oI, oI, oI, oI, oO, oO, oO, oO, oO, oO, oO, oO, oO, oO, oO, oO] rfl rfl (any_of HT_.out (by kernel_rfl)) (fun _ _ _ h => h) (Or.inl ⟨by rfl, ?_⟩) ?_ ?_
                      rotate_left
                      · intro w'
                        go_simp
                        with_reducible rfl
                      rotate_left
                      · simp only [Act.put, List.setIfInBounds_toArray, List.set_cons_zero, List.set_cons_succ, i64_w, i32_w]
                        rfl
                      refine pure_ (i := 43) (N := some 73) (v := ?_) (a' := ?_) #[oI, oI, oI, oI, oI, oI, oI, oI, oI, oI, oI, oI, oI, oI, oI, oI, oI, oI, oI, oI, oI, oI, oI, oI, oI, oI, oI, oI, oI, oI, oI, oI, oI, oI, oI, oI, oI, oI, oI, oI, oI, oI, oI, oI, oO, oO, oO, oO, oO, oO, oO, oO, oO, oO, oO] rfl rfl (any_of HT_.out (by kernel_rfl)) (fun _ _ _ h => h) (Or.inl ⟨by rfl, ?_⟩) ?_ ?_
                      rotate_left
                      · intro w'
                        go_simp
                        with_reducible rfl
                      rotate_left
                      · simp only [Act.put, List.setIfInBounds_toArray, List.set_cons_zero, List.set_cons_succ, i64_w, i32_w]
                        rfl
                      refine pure_ (i := 44) (N := some 74) (v := ?_) (a' := ?_) #[oI, oI, oI, oI, oI, oI, oI, oI, oI, oI, oI, oI, oI, oI, oI, oI, oI, oI, oI, oI, oI, oI, oI, oI, oI, oI, oI, oI, oI, oI, oI, oI, oI, oI, oI, oI, oI, oI, oI, oI, oI, oI, oI, oI, oI, oO, oO, oO, oO, oO, oO, oO, oO, oO, oO] rfl rfl (any_of HT_.out (by kernel_rfl)) (fun _ _ _ h => h) (Or.inl ⟨by rfl, ?_⟩) ?_ ?_
                      rotate_left
                      · intro w'
                        go_simp
                        with_reducible rfl
                      rotate_left
                      · simp only [Act.put, List.setIfInBounds_toArray, List.set_cons_zero, List.set_cons_succ, i64_w, i32_w]
                        rfl
                      refine pure_ (i := 45) (N := some 75) (v := ?_) (a' := ?_) #[oI, oI, oI, oI, oI, oI, oI, oI, oI, oI, oI, oI, oI, oI, oI, oI, oI, oI, oI, oI, oI, oI, oI, oI, oI, oI, oI, oI, oI, oI, oI, oI, oI, oI, oI, oI, oI, oI, oI, oI, oI, oI, oI, oI, oI, oI, oO, oO, oO, oO, oO, oO, oO, oO, oO] rfl rfl (any_of HT_.out (by kernel_rfl)) (fun _ _ _ h => h) (Or.inl ⟨by rfl, ?_⟩) ?_ ?_
                      rotate_left
                      · intro w'
                        go_simp
                        with_reducible rfl
                      rotate_left
                      · simp only [Act.put, List.setIfInBounds_toArray, List.set_cons_zero, List.set_cons_succ, i64_w, i32_w]
                        rfl
                      refine take_ (i := 46) (N := some 76) (v := ?_) (a' := ?_) #[oI, oI, oI, oI, oI, oI, oI, oI, oI, oI, oI, oI, oI, oI, oI, oI, oI, oI, oI, oI, oI, oI, oI, oI, oI, oI, oI, oI, oI, oI, oI, oI, oI, oI, oI, oI, oI, oI, oI, oI, oI, oI, oI, oI, oI, oI, oI, oO, oO, oO, oO, oO, oO, oO, oO] rfl rfl (take_ofW HT_.out HW_.out (by kernel_rfl)) (fun _ _ _ h => h) (Or.inl ⟨by rfl, ?_⟩) hHeld ?_ ?_
                      rotate_left
                      · rintro w' ⟨s0, s1, s2, s3, s4, s5, s6, s7, s8⟩
                        go_simp
                        with_reducible rfl
                      rotate_left
                      · simp only [Act.put, List.setIfInBounds_toArray, List.set_cons_zero, List.set_cons_succ, i64_w, i32_w]
                        rfl
                      refine pure_ (i := 47) (N := some 77) (v := ?_) (a' := ?_) #[oI, oI, oI, oI, oI, oI, oI, oI, oI, oI, oI, oI, oI, oI, oI, oI, oI, oI, oI, oI, oI, oI, oI, oI, oI, oI, oI, oI, oI, oI, oI, oI, oI, oI, oI, oI, oI, oI, oI, oI, oI, oI, oI, oI, oI, oI, oI, oI, oO, oO, oO, oO, oO, oO, oO] rfl rfl (any_of HT_.out (by kernel_rfl)) (fun _ _ _ h => h) (Or.inl ⟨by rfl, ?_⟩) ?_ ?_
                      rotate_left
                      · intro w'
                        go_simp
                        with_reducible rfl
                      rotate_left
                      · simp only [Act.put, List.setIfInBounds_toArray, List.set_cons_zero, List.set_cons_succ, i64_w, i32_w]
                        rfl
                      refine pure_ (i := 48) (N := some 78) (v := ?_) (a' := ?_) #[oI, oI, oI, oI, oI, oI, oI, oI, oI, oI, oI, oI, oI, oI, oI, oI, oI, oI, oI, oI, oI, oI, oI, oI, oI, oI, oI, oI, oI, oI, oI, oI, oI, oI, oI, oI, oI, oI, oI, oI, oI, oI, oI, oI, oI, oI, oI, oI, oI, oO, oO, oO, oO, oO, oO] rfl rfl (any_of HT_.out (by kernel_rfl)) (fun _ _ _ h => h) (Or.inl ⟨by rfl, ?_⟩) ?_ ?_
                      rotate_left
                      · intro w'
                        go_simp
                        with_reducible rfl
                      rotate_left
                      · simp only [Act.put, List.setIfInBounds_toArray, List.set_cons_zero, List.set_cons_succ, i64_w, i32_w]
                        rfl
                      refine take_ (i := 49) (N := some 79) (v := ?_) (a' := ?_) #[oI, oI, oI, oI, oI, oI, oI, oI, oI, oI, oI, oI, oI, oI, oI, oI, oI, oI, oI, oI, oI, oI, oI, oI, oI, oI, oI, oI, oI, oI, oI, oI, oI, oI, oI, oI, oI, oI, oI, oI, oI, oI, oI, oI, oI, oI, oI, oI, oI, oI, oO, oO, oO, oO, oO] rfl rfl (take_ofW HT_.out HW_.out (by kernel_rfl)) (fun _ _ _ h => h) (Or.inl ⟨by rfl, ?_⟩) hHeld ?_ ?_
                      rotate_left
                      · rintro w' ⟨s0, s1, s2, s3, s4, s5, s6, s7, s8⟩
                        go_simp
                        with_reducible rfl
                      rotate_left
                      · simp only [Act.put, List.setIfInBounds_toArray, List.set_cons_zero, List.set_cons_succ, i64_w, i32_w]
                        rfl
                      refine take_ (i := 50) (N := some 80) (v := ?_) (a' := ?_) #[oI, oI, oI, oI, oI, oI, oI, oI, oI, oI, oI, oI, oI, oI, oI, oI, oI, oI, oI, oI, oI, oI, oI, oI, oI, oI, oI, oI, oI, oI, oI, oI, oI, oI, oI, oI, oI, oI, oI, oI, oI, oI, oI, oI, oI, oI, oI, oI, oI, oI, oI, oO, oO, oO, oO] rfl rfl (take_ofW HT_.out HW_.out (by kernel_rfl)) (fun _ _ _ h => h) (Or.inl ⟨by rfl, ?_⟩) hHeld ?_ ?_
                      rotate_left
                      · rintro w' ⟨s0, s1, s2, s3, s4, s5, s6, s7, s8⟩
                        go_simp
                        with_reducible rfl
                      rotate_left
                      · simp only [Act.put, List.setIfInBounds_toArray, List.set_cons_zero, List.set_cons_succ, i64_w, i32_w]
                        rfl
                      refine pure_ (i := 51) (N := some 81) (v := ?_) (a' := ?_) #[oI, oI, oI, oI, oI, oI, oI, oI, oI, oI, oI, oI, oI, oI, oI, oI, oI, oI, oI, oI, oI, oI, oI, oI, oI, oI, oI, oI, oI, oI, oI, oI, oI, oI, oI, oI, oI, oI, oI, oI, oI, oI, oI, oI, oI, oI, oI, oI, oI, oI, oI, oI, oO, oO, oO] rfl rfl (any_of HT_.out (by kernel_rfl)) (fun _ _ _ h => h) (Or.inl ⟨by rfl, ?_⟩) ?_ ?_
                      rotate_left
                      · intro w'
                        go_simp
                        with_reducible rfl
                      rotate_left
                      · simp only [Act.put, List.setIfInBounds_toArray, List.set_cons_zero, List.set_cons_succ, i64_w, i32_w]
                        rfl
                      refine pure_ (i := 52) (N := some 82) (v := ?_) (a' := ?_) #[oI, oI, oI, oI, oI, oI, oI, oI, oI, oI, oI, oI, oI, oI, oI, oI, oI, oI, oI, oI, oI, oI, oI, oI, oI, oI, oI, oI, oI, oI, oI, oI, oI, oI, oI, oI, oI, oI, oI, oI, oI, oI, oI, oI, oI, oI, oI, oI, oI, oI, oI, oI, oI, oO, oO] rfl rfl (any_of HT_.out (by kernel_rfl)) (fun _ _ _ h => h) (Or.inl ⟨by rfl, ?_⟩) ?_ ?_
                      rotate_left
                      · intro w'
                        go_simp
                        with_reducible rfl
                      rotate_left
                      · simp only [Act.put, List.setIfInBounds_toArray, List.set_cons_zero, List.set_cons_succ, i64_w, i32_w]
                        rfl
                      refine pure_ (i := 53) (N := some 83) (v := ?_) (a' := ?_) #[oI, oI, oI, oI, oI, oI, oI, oI, oI, oI, oI, oI, oI, oI, oI, oI, oI, oI, oI, oI, oI, oI, oI, oI, oI, oI, oI, oI, oI, oI, oI, oI, oI, oI, oI, oI, oI, oI, oI, oI, oI, oI, oI, oI, oI, oI, oI, oI, oI, oI, oI, oI, oI, oI, oO] rfl rfl (any_of HT_.out (by kernel_rfl)) (fun _ _ _ h => h) (Or.inl ⟨by rfl, ?_⟩) ?_ ?_
                      rotate_left
                      · intro w'
                        go_simp
                        with_reducible rfl
                      rotate_left
                      · simp only [Act.put, List.setIfInBounds_toArray, List.set_cons_zero, List.set_cons_succ, i64_w, i32_w]
                        rfl
                      refine pure_ (i := 54) (N := some 6) (v := ?_) (a' := ?_) #[oI, oI, oI, oI, oI, oI, oI, oI, oI, oI, oI, oI, oI, oI, oI, oI, oI, oI, oI, oI, oI, oI, oI, oI, oI, oI, oI, oI, oI, oI, oI, oI, oI, oI, oI, oI, oI, oI, oI, oI, oI, oI, oI, oI, oI, oI, oI, oI, oI, oI, oI, oI, oI, oI, oI] rfl rfl (any_of HT_.out (by kernel_rfl)) (fun _ _ _ h => h) (Or.inl ⟨by rfl, ?_⟩) ?_ ?_
                      rotate_left
                      · intro w'
                        go_simp
                        with_reducible rfl
                      rotate_left
                      · simp only [Act.put, List.setIfInBounds_toArray, List.set_cons_zero, List.set_cons_succ, i64_w, i32_w]
                        rfl
                      refine done_ (done_of HT_.out (by kernel_rfl)) ?_
                      try go_wp2
                      go_ret
                      exact ⟨by first | rfl | (simp [errW_none, errW_some] <;> rfl) | (simp [*, errW_none, errW_some] <;> rfl), by repeat (first | (with_reducible first | exact HB.out | apply pA | apply pN | apply pD | refine pS ?_ GE409.out | refine pS ?_ GE416.out | refine pS ?_ GE424.out) | exact HB.out)⟩
                  · rw [if_neg c18] at H
                    have c18b0 : (t414 == 6) = false := beq_eq_false_iff_ne.mpr c18
                    have c18b1 : (t414 != 6) = true := bne_iff_ne.mpr c18
                    exact absurd ((Option.some.inj H).trans hlaw_.out) (by decide)
                · replace c17 := Bool.eq_false_iff.mpr c17
                  subst c17
                  have H1 : (if a0_2 > 0 then (some true) else (some (t412 == a0_0 && (t413 == a0_1 && (t414 == a0_2))))) = some r := by rw [if_neg (show ¬ (false = true) by decide)] at H; exact H
                  clear H
                  have H := H1
                  clear H1
                  by_cases c58 : a0_2 > 0
                  · rw [if_pos c58] at H
                    have c58b0 : decide (0 < a0_2) = true := decide_eq_true c58
                    clear c58
                    clear hlaw_
                    obtain rfl := Option.some.inj H
                    go_enter Try.func7, Try.ntmps7
                    try go_wp2_with (first | ((with_reducible refine gate_dst (N := 3) rfl ?_); refine box_event ?hg (N := 3) ?hd (cs := #[.int .u64 a0_0, .int .u64 a0_1, .int .i64 a0_2]) (t := 24) ?hr ?_; (case hd => rfl); (case hg => rfl); (case hr => first | (go_simp; done) | (go_simp; rfl)); intro gb409 hg w59 hbox hb; have n0_ := Aside0.mk (below_step (by repeat (first | (with_reducible first | exact HB.out | apply pA | apply pN | apply pD) | exact HB.out)) hb); have n1_ := Aside0.mk (hbox); have n2_ := Aside0.mk ((by rw [hg]; exact (below_size (by repeat (first | (with_reducible first | exact HB.out | apply pA | apply pN | apply pD) | exact HB.out))) : w.heap.size ≤ gb409)); have n3_ := Aside0.mk ((by rw [hg]; exact (below_size (by repeat (first | (with_reducible first | exact HB.out | apply pA | apply pN | apply pD) | exact HB.out))) : w.heap.size ≤ gb409)); clear HB; have HB := n0_; have BK409 := n1_; have GW409 := n2_; have GE409 := n3_; clear n0_ n1_ n2_ n3_; clear hb hbox hg) | ((with_reducible refine gate_callee (f := 9) rfl ?_); refine goesL_ (some 12) rfl rfl Try.func9 (by kernel_rfl) rfl #[] rfl (by (try simp only [List.map_toArray, List.map_cons, List.map_nil]); first | done | rfl | (simp only [List.length_drop, List.length_take]; rfl)) ?_; (with_reducible refine (portreevelaw17_shown.calls k  true _ A4.out).mono ?_); rintro e w60 ⟨rfl, hb⟩; refine ⟨_, rfl, ?_⟩; have n0_ := Aside0.mk (blk_below (g := gb409) (o := .cells #[.int .u64 a0_0, .int .u64 a0_1, .int .i64 a0_2] 24 (0, 0)) (by (with_reducible repeat (first | refine qN ?_ _ | refine qD ?_ | refine qA ?_ _)); exact BK409.out) hb); have n1_ := Aside0.mk (below_step (by repeat (first | (with_reducible first | exact HB.out | apply pA | apply pN | apply pD | refine pS ?_ GE409.out) | exact HB.out)) hb); clear BK409; clear HB; have BK409 := n0_; have HB := n1_; clear n0_ n1_; (try clear hb); (try clear hb2); (try clear hk); (try clear hi); have hcz61_0 : w60.cell? ⟨gb409, 0, none⟩ = some (.int .u64 a0_0) := (blk_cell BK409.out 0).trans rfl; have hcz61_1 : w60.cell? ⟨gb409, 1, none⟩ = some (.int .u64 a0_1) := (blk_cell BK409.out 1).trans rfl; have hcz61_2 : w60.cell? ⟨gb409, 2, none⟩ = some (.int .i64 a0_2) := (blk_cell BK409.out 2).trans rfl; have hfz61_0 := blk_frozen BK409.out 0; have hfz61_1 := blk_frozen BK409.out 1; have hfz61_2 := blk_frozen BK409.out 2) | ((with_reducible refine gate_callee (f := 10) rfl ?_); refine goesL_ (some 14) rfl rfl Try.func10 (by kernel_rfl) rfl #[.agg #[.int .u64 a0_0, .int .u64 a0_1, .int .i64 a0_2]] rfl (by (try simp only [List.map_toArray, List.map_cons, List.map_nil]); first | done | rfl | (simp only [List.length_drop, List.length_take]; rfl)) ?_; (with_reducible refine (portreeveref17_Right.calls a0_0 a0_1 a0_2 true _ A5.out).mono ?_); rintro e w62 ⟨rfl, hb⟩; refine ⟨_, rfl, ?_⟩; have n0_ := Aside0.mk (blk_below (g := gb409) (o := .cells #[.int .u64 a0_0, .int .u64 a0_1, .int .i64 a0_2] 24 (0, 0)) (by (with_reducible repeat (first | refine qN ?_ _ | refine qD ?_ | refine qA ?_ _)); exact BK409.out) hb); have n1_ := Aside0.mk (below_step (by repeat (first | (with_reducible first | exact HB.out | apply pA | apply pN | apply pD | refine pS ?_ GE409.out) | exact HB.out)) hb); clear BK409; clear HB; have BK409 := n0_; have HB := n1_; clear n0_ n1_; (try clear hb); (try clear hb2); (try clear hk); (try clear hi); have hcz63_0 : w62.cell? ⟨gb409, 0, none⟩ = some (.int .u64 a0_0) := (blk_cell BK409.out 0).trans rfl; have hcz63_1 : w62.cell? ⟨gb409, 1, none⟩ = some (.int .u64 a0_1) := (blk_cell BK409.out 1).trans rfl; have hcz63_2 : w62.cell? ⟨gb409, 2, none⟩ = some (.int .i64 a0_2) := (blk_cell BK409.out 2).trans rfl; have hfz63_0 := blk_frozen BK409.out 0; have hfz63_1 := blk_frozen BK409.out 1; have hfz63_2 := blk_frozen BK409.out 2) | ((with_reducible refine gate_callee (f := 14) rfl ?_); refine goesL_ (some 19) rfl rfl Try.func14 (by kernel_rfl) rfl #[.agg #[.int .u64 a0_0, .int .u64 a0_1, .int .i64 a0_2]] rfl (by (try simp only [List.map_toArray, List.map_cons, List.map_nil]); first | done | rfl | (simp only [List.length_drop, List.length_take]; rfl)) ?_; (with_reducible refine (meter_Tick.calls a0_0 a0_1 a0_2 t412 t413 t414 false _ A7.out).mono ?_); rintro e w64 ⟨rfl, hb⟩; refine ⟨_, rfl, ?_⟩; have n0_ := Aside0.mk (blk_below (g := gb409) (o := .cells #[.int .u64 a0_0, .int .u64 a0_1, .int .i64 a0_2] 24 (0, 0)) (by (with_reducible repeat (first | refine qN ?_ _ | refine qD ?_ | refine qA ?_ _)); exact BK409.out) hb); have n1_ := Aside0.mk (below_step (by repeat (first | (with_reducible first | exact HB.out | apply pA | apply pN | apply pD | refine pS ?_ GE409.out) | exact HB.out)) hb); clear BK409; clear HB; have BK409 := n0_; have HB := n1_; clear n0_ n1_; (try clear hb); (try clear hb2); (try clear hk); (try clear hi)) | ((with_reducible refine gate_dst (N := 8) rfl ?_); refine box_event ?hg (N := 8) ?hd (cs := #[.int .u64 0, .int .u64 0, .int .i64 0]) (t := 24) ?hr ?_; (case hd => rfl); (case hg => rfl); (case hr => first | (go_simp; done) | (go_simp; rfl)); intro gb416 hg w65 hbox hb; have n0_ := Aside0.mk (blk_below (g := gb409) (o := .cells #[.int .u64 a0_0, .int .u64 a0_1, .int .i64 a0_2] 24 (0, 0)) (by (with_reducible repeat (first | refine qN ?_ _ | refine qD ?_ | refine qA ?_ _)); exact BK409.out) hb); have n1_ := Aside0.mk (below_step (by repeat (first | (with_reducible first | exact HB.out | apply pA | apply pN | apply pD | refine pS ?_ GE409.out) | exact HB.out)) hb); have n2_ := Aside0.mk (hbox); have n3_ := Aside0.mk ((by rw [hg]; exact (below_size (by repeat (first | (with_reducible first | exact HB.out | apply pA | apply pN | apply pD | refine pS ?_ GE409.out) | exact HB.out))) : w.heap.size ≤ gb416)); have n4_ := Aside0.mk ((by rw [hg]; exact (below_size (by repeat (first | (with_reducible first | exact HB.out | apply pA | apply pN | apply pD | refine pS ?_ GE409.out) | exact HB.out))) : w.heap.size ≤ gb416)); have n5_ := Aside0.mk ((by rw [hg]; exact Nat.ne_of_lt (blk_lt (g := gb409) (o := .cells #[.int .u64 a0_0, .int .u64 a0_1, .int .i64 a0_2] 24 (0, 0)) (by (with_reducible repeat (first | refine qN ?_ _ | refine qD ?_ | refine qA ?_ _)); exact BK409.out)) : gb409 ≠ gb416)); have n6_ := Aside0.mk ((by rw [hg]; exact Nat.ne_of_gt (blk_lt (g := gb409) (o := .cells #[.int .u64 a0_0, .int .u64 a0_1, .int .i64 a0_2] 24 (0, 0)) (by (with_reducible repeat (first | refine qN ?_ _ | refine qD ?_ | refine qA ?_ _)); exact BK409.out)) : gb416 ≠ gb409)); clear BK409; clear HB; have BK409 := n0_; have HB := n1_; have BK416 := n2_; have GW416 := n3_; have GE416 := n4_; have NB409_416 := n5_; have NB416_409 := n6_; clear n0_ n1_ n2_ n3_ n4_ n5_ n6_; clear hb hbox hg; have hnb66 := NB416_409.out; have hnc66 := NB409_416.out; have hcz67_0 : w65.cell? ⟨gb416, 0, none⟩ = some (.int .u64 0) := (blk_cell BK416.out 0).trans rfl; have hcz67_1 : w65.cell? ⟨gb416, 1, none⟩ = some (.int .u64 0) := (blk_cell BK416.out 1).trans rfl; have hcz67_2 : w65.cell? ⟨gb416, 2, none⟩ = some (.int .i64 0) := (blk_cell BK416.out 2).trans rfl; have hfz67_0 := blk_frozen BK416.out 0; have hfz67_1 := blk_frozen BK416.out 1; have hfz67_2 := blk_frozen BK416.out 2; have hcz68_0 : w65.cell? ⟨gb409, 0, none⟩ = some (.int .u64 a0_0) := (blk_cell BK409.out 0).trans rfl; have hcz68_1 : w65.cell? ⟨gb409, 1, none⟩ = some (.int .u64 a0_1) := (blk_cell BK409.out 1).trans rfl; have hcz68_2 : w65.cell? ⟨gb409, 2, none⟩ = some (.int .i64 a0_2) := (blk_cell BK409.out 2).trans rfl; have hfz68_0 := blk_frozen BK409.out 0; have hfz68_1 := blk_frozen BK409.out 1; have hfz68_2 := blk_frozen BK409.out 2) | ((with_reducible refine gate_callee (f := 16) rfl ?_); refine goesL_ (some 26) rfl rfl Try.func16 (by kernel_rfl) rfl #[.agg #[.int .u64 a0_0, .int .u64 a0_1, .int .i64 a0_2], .int .i64 a1, .int .i64 a2] rfl (by (try simp only [List.map_toArray, List.map_cons, List.map_nil]); first | done | rfl | (simp only [List.length_drop, List.length_take]; rfl)) ?_; (with_reducible refine (meter_Count.calls a0_0 a0_1 a0_2 a1 a2 t417 t418 t419 _ A8.out).mono ?_); rintro e w69 ⟨rfl, hb⟩; refine ⟨_, rfl, ?_⟩; have n0_ := Aside0.mk (blk_below (g := gb409) (o := .cells #[.int .u64 a0_0, .int .u64 a0_1, .int .i64 a0_2] 24 (0, 0)) (by (with_reducible repeat (first | refine qN ?_ _ | refine qD ?_ | refine qA ?_ _)); refine blk_far ?_ NB409_416.out _; (with_reducible repeat (first | refine qN ?_ _ | refine qD ?_ | refine qA ?_ _)); refine blk_far ?_ NB409_416.out _; (with_reducible repeat (first | refine qN ?_ _ | refine qD ?_ | refine qA ?_ _)); refine blk_far ?_ NB409_416.out _; (with_reducible repeat (first | refine qN ?_ _ | refine qD ?_ | refine qA ?_ _)); exact BK409.out) hb); have n1_ := Aside0.mk (blk_below (g := gb416) (o := .cells #[.int .u64 t412, .int .u64 t413, .int .i64 t414] 24 (0, 0)) (by (with_reducible repeat (first | refine qN ?_ _ | refine qD ?_ | refine qA ?_ _)); refine blk_put (cs := #[.int .u64 t412, .int .u64 t413, .int .i64 0]) ?_ 2 _ rfl; (with_reducible repeat (first | refine qN ?_ _ | refine qD ?_ | refine qA ?_ _)); refine blk_put (cs := #[.int .u64 t412, .int .u64 0, .int .i64 0]) ?_ 1 _ rfl; (with_reducible repeat (first | refine qN ?_ _ | refine qD ?_ | refine qA ?_ _)); refine blk_put (cs := #[.int .u64 0, .int .u64 0, .int .i64 0]) ?_ 0 _ rfl; (with_reducible repeat (first | refine qN ?_ _ | refine qD ?_ | refine qA ?_ _)); exact BK416.out) hb); have n2_ := Aside0.mk (below_step (by repeat (first | (with_reducible first | exact HB.out | apply pA | apply pN | apply pD | refine pS ?_ GE409.out | refine pS ?_ GE416.out) | exact HB.out)) hb); clear BK409; clear BK416; clear HB; have BK409 := n0_; have BK416 := n1_; have HB := n2_; clear n0_ n1_ n2_; (try clear hb); (try clear hb2); (try clear hk); (try clear hi)) | ((with_reducible refine gate_callee (f := 14) rfl ?_); refine goesL_ (some 27) rfl rfl Try.func14 (by kernel_rfl) rfl #[.agg #[.int .u64 t417, .int .u64 t418, .int .i64 t419]] rfl (by (try simp only [List.map_toArray, List.map_cons, List.map_nil]); first | done | rfl | (simp only [List.length_drop, List.length_take]; rfl)) ?_; (with_reducible refine (meter_Tick.calls t417 t418 t419 t420 t421 t422 t423 _ A9.out).mono ?_); rintro e w70 ⟨rfl, hb⟩; refine ⟨_, rfl, ?_⟩; have n0_ := Aside0.mk (blk_below (g := gb409) (o := .cells #[.int .u64 a0_0, .int .u64 a0_1, .int .i64 a0_2] 24 (0, 0)) (by (with_reducible repeat (first | refine qN ?_ _ | refine qD ?_ | refine qA ?_ _)); exact BK409.out) hb); have n1_ := Aside0.mk (blk_below (g := gb416) (o := .cells #[.int .u64 t412, .int .u64 t413, .int .i64 t414] 24 (0, 0)) (by (with_reducible repeat (first | refine qN ?_ _ | refine qD ?_ | refine qA ?_ _)); exact BK416.out) hb); have n2_ := Aside0.mk (below_step (by repeat (first | (with_reducible first | exact HB.out | apply pA | apply pN | apply pD | refine pS ?_ GE409.out | refine pS ?_ GE416.out) | exact HB.out)) hb); clear BK409; clear BK416; clear HB; have BK409 := n0_; have BK416 := n1_; have HB := n2_; clear n0_ n1_ n2_; (try clear hb); (try clear hb2); (try clear hk); (try clear hi)) | ((with_reducible refine gate_dst (N := 10) rfl ?_); refine box_event ?hg (N := 10) ?hd (cs := #[.int .u64 0, .int .u64 0, .int .i64 0]) (t := 24) ?hr ?_; (case hd => rfl); (case hg => rfl); (case hr => first | (go_simp; done) | (go_simp; rfl)); intro gb424 hg w71 hbox hb; have n0_ := Aside0.mk (blk_below (g := gb409) (o := .cells #[.int .u64 a0_0, .int .u64 a0_1, .int .i64 a0_2] 24 (0, 0)) (by (with_reducible repeat (first | refine qN ?_ _ | refine qD ?_ | refine qA ?_ _)); exact BK409.out) hb); have n1_ := Aside0.mk (blk_below (g := gb416) (o := .cells #[.int .u64 t412, .int .u64 t413, .int .i64 t414] 24 (0, 0)) (by (with_reducible repeat (first | refine qN ?_ _ | refine qD ?_ | refine qA ?_ _)); exact BK416.out) hb); have n2_ := Aside0.mk (below_step (by repeat (first | (with_reducible first | exact HB.out | apply pA | apply pN | apply pD | refine pS ?_ GE409.out | refine pS ?_ GE416.out) | exact HB.out)) hb); have n3_ := Aside0.mk (hbox); have n4_ := Aside0.mk ((by rw [hg]; exact (below_size (by repeat (first | (with_reducible first | exact HB.out | apply pA | apply pN | apply pD | refine pS ?_ GE409.out | refine pS ?_ GE416.out) | exact HB.out))) : w.heap.size ≤ gb424)); have n5_ := Aside0.mk ((by rw [hg]; exact (below_size (by repeat (first | (with_reducible first | exact HB.out | apply pA | apply pN | apply pD | refine pS ?_ GE409.out | refine pS ?_ GE416.out) | exact HB.out))) : w.heap.size ≤ gb424)); have n6_ := Aside0.mk ((by rw [hg]; exact Nat.ne_of_lt (blk_lt (g := gb409) (o := .cells #[.int .u64 a0_0, .int .u64 a0_1, .int .i64 a0_2] 24 (0, 0)) (by (with_reducible repeat (first | refine qN ?_ _ | refine qD ?_ | refine qA ?_ _)); exact BK409.out)) : gb409 ≠ gb424)); have n7_ := Aside0.mk ((by rw [hg]; exact Nat.ne_of_gt (blk_lt (g := gb409) (o := .cells #[.int .u64 a0_0, .int .u64 a0_1, .int .i64 a0_2] 24 (0, 0)) (by (with_reducible repeat (first | refine qN ?_ _ | refine qD ?_ | refine qA ?_ _)); exact BK409.out)) : gb424 ≠ gb409)); have n8_ := Aside0.mk ((by rw [hg]; exact Nat.ne_of_lt (blk_lt (g := gb416) (o := .cells #[.int .u64 t412, .int .u64 t413, .int .i64 t414] 24 (0, 0)) (by (with_reducible repeat (first | refine qN ?_ _ | refine qD ?_ | refine qA ?_ _)); exact BK416.out)) : gb416 ≠ gb424)); have n9_ := Aside0.mk ((by rw [hg]; exact Nat.ne_of_gt (blk_lt (g := gb416) (o := .cells #[.int .u64 t412, .int .u64 t413, .int .i64 t414] 24 (0, 0)) (by (with_reducible repeat (first | refine qN ?_ _ | refine qD ?_ | refine qA ?_ _)); exact BK416.out)) : gb424 ≠ gb416)); clear BK409; clear BK416; clear HB; have BK409 := n0_; have BK416 := n1_; have HB := n2_; have BK424 := n3_; have GW424 := n4_; have GE424 := n5_; have NB409_424 := n6_; have NB424_409 := n7_; have NB416_424 := n8_; have NB424_416 := n9_; clear n0_ n1_ n2_ n3_ n4_ n5_ n6_ n7_ n8_ n9_; clear hb hbox hg; have hnb72 := NB424_409.out; have hnc72 := NB409_424.out; have hnb73 := NB424_416.out; have hnc73 := NB416_424.out; have hcz74_0 : w71.cell? ⟨gb424, 0, none⟩ = some (.int .u64 0) := (blk_cell BK424.out 0).trans rfl; have hcz74_1 : w71.cell? ⟨gb424, 1, none⟩ = some (.int .u64 0) := (blk_cell BK424.out 1).trans rfl; have hcz74_2 : w71.cell? ⟨gb424, 2, none⟩ = some (.int .i64 0) := (blk_cell BK424.out 2).trans rfl; have hfz74_0 := blk_frozen BK424.out 0; have hfz74_1 := blk_frozen BK424.out 1; have hfz74_2 := blk_frozen BK424.out 2))
                    have n0_ : Aside0 ((((w71.setCell ⟨gb424, 0, none⟩ (.int .u64 t420)).setCell ⟨gb424, 1, none⟩ (.int .u64 t421)).setCell ⟨gb424, 2, none⟩ (.int .i64 t422)).heap[gb409]? = some (.cells #[.int .u64 a0_0, .int .u64 a0_1, .int .i64 a0_2] 24 (0, 0))) := ⟨by (with_reducible repeat (first | refine qN ?_ _ | refine qD ?_ | refine qA ?_ _)); refine blk_far ?_ NB409_424.out _; (with_reducible repeat (first | refine qN ?_ _ | refine qD ?_ | refine qA ?_ _)); refine blk_far ?_ NB409_424.out _; (with_reducible repeat (first | refine qN ?_ _ | refine qD ?_ | refine qA ?_ _)); refine blk_far ?_ NB409_424.out _; (with_reducible repeat (first | refine qN ?_ _ | refine qD ?_ | refine qA ?_ _)); exact BK409.out⟩
                    have n1_ : Aside0 ((((w71.setCell ⟨gb424, 0, none⟩ (.int .u64 t420)).setCell ⟨gb424, 1, none⟩ (.int .u64 t421)).setCell ⟨gb424, 2, none⟩ (.int .i64 t422)).heap[gb416]? = some (.cells #[.int .u64 t412, .int .u64 t413, .int .i64 t414] 24 (0, 0))) := ⟨by (with_reducible repeat (first | refine qN ?_ _ | refine qD ?_ | refine qA ?_ _)); refine blk_far ?_ NB416_424.out _; (with_reducible repeat (first | refine qN ?_ _ | refine qD ?_ | refine qA ?_ _)); refine blk_far ?_ NB416_424.out _; (with_reducible repeat (first | refine qN ?_ _ | refine qD ?_ | refine qA ?_ _)); refine blk_far ?_ NB416_424.out _; (with_reducible repeat (first | refine qN ?_ _ | refine qD ?_ | refine qA ?_ _)); exact BK416.out⟩
                    have n2_ : Aside0 ((((w71.setCell ⟨gb424, 0, none⟩ (.int .u64 t420)).setCell ⟨gb424, 1, none⟩ (.int .u64 t421)).setCell ⟨gb424, 2, none⟩ (.int .i64 t422)).heap[gb424]? = some (.cells #[.int .u64 t420, .int .u64 t421, .int .i64 t422] 24 (0, 0))) := ⟨by (with_reducible repeat (first | refine qN ?_ _ | refine qD ?_ | refine qA ?_ _)); refine blk_put (cs := #[.int .u64 t420, .int .u64 t421, .int .i64 0]) ?_ 2 _ rfl; (with_reducible repeat (first | refine qN ?_ _ | refine qD ?_ | refine qA ?_ _)); refine blk_put (cs := #[.int .u64 t420, .int .u64 0, .int .i64 0]) ?_ 1 _ rfl; (with_reducible repeat (first | refine qN ?_ _ | refine qD ?_ | refine qA ?_ _)); refine blk_put (cs := #[.int .u64 0, .int .u64 0, .int .i64 0]) ?_ 0 _ rfl; (with_reducible repeat (first | refine qN ?_ _ | refine qD ?_ | refine qA ?_ _)); exact BK424.out⟩
                    have n3_ : Aside0 (Below w.heap.size w (((w71.setCell ⟨gb424, 0, none⟩ (.int .u64 t420)).setCell ⟨gb424, 1, none⟩ (.int .u64 t421)).setCell ⟨gb424, 2, none⟩ (.int .i64 t422))) := ⟨by repeat (first | (with_reducible first | exact HB.out | apply pA | apply pN | apply pD | refine pS ?_ GE409.out | refine pS ?_ GE416.out | refine pS ?_ GE424.out) | exact HB.out)⟩
                    (try clear BK409)
                    (try clear BK416)
                    (try clear BK424)
                    (try clear HB)
                    generalize (((w71.setCell ⟨gb424, 0, none⟩ (.int .u64 t420)).setCell ⟨gb424, 1, none⟩ (.int .u64 t421)).setCell ⟨gb424, 2, none⟩ (.int .i64 t422)) = w75 at n0_ n1_ n2_ n3_ ⊢
                    have BK409 := n0_
                    have BK416 := n1_
                    have BK424 := n2_
                    have HB := n3_
                    clear n0_ n1_ n2_ n3_
                    have n0_ := Aside0.mk (qD BK409.out)
                    have n1_ := Aside0.mk (qD BK416.out)
                    have n2_ := Aside0.mk (qD BK424.out)
                    have n3_ := Aside0.mk (pD HB.out)
                    clear BK409
                    clear BK416
                    clear BK424
                    clear HB
                    have BK409 := n0_
                    have BK416 := n1_
                    have BK424 := n2_
                    have HB := n3_
                    clear n0_ n1_ n2_ n3_
                    refine start_ (n := 55) (S := fun w' => w'.cell? ⟨gb416, 0, none⟩ = some (.int .u64 t412) ∧ w'.cell? ⟨gb416, 1, none⟩ = some (.int .u64 t413) ∧ w'.cell? ⟨gb416, 2, none⟩ = some (.int .i64 t414) ∧ w'.cell? ⟨gb424, 0, none⟩ = some (.int .u64 t420) ∧ w'.cell? ⟨gb424, 1, none⟩ = some (.int .u64 t421) ∧ w'.cell? ⟨gb424, 2, none⟩ = some (.int .i64 t422) ∧ w'.cell? ⟨gb409, 0, none⟩ = some (.int .u64 a0_0) ∧ w'.cell? ⟨gb409, 1, none⟩ = some (.int .u64 a0_1) ∧ w'.cell? ⟨gb409, 2, none⟩ = some (.int .i64 a0_2)) (ds := []) #[oO, oO, oO, oO, oO, oO, oO, oO, oO, oO, oO, oO, oO, oO, oO, oO, oO, oO, oO, oO, oO, oO, oO, oO, oO, oO, oO, oO, oO, oO, oO, oO, oO, oO, oO, oO, oO, oO, oO, oO, oO, oO, oO, oO, oO, oO, oO, oO, oO, oO, oO, oO, oO, oO, oO] (by kernel_rfl) rfl rfl ⟨(blk_cell BK416.out 0).trans rfl, (blk_cell BK416.out 1).trans rfl, (blk_cell BK416.out 2).trans rfl, (blk_cell BK424.out 0).trans rfl, (blk_cell BK424.out 1).trans rfl, (blk_cell BK424.out 2).trans rfl, (blk_cell BK409.out 0).trans rfl, (blk_cell BK409.out 1).trans rfl, (blk_cell BK409.out 2).trans rfl⟩ (fun hHeld => ?_); refine with_tabW portreevelaw17_MeterTime.tab6 portreevelaw17_MeterTime.bits6 (fun HT_ HW_ => ?_)
                    generalize w75.drew = w76 at BK409 BK416 BK424 HB hHeld ⊢
                    refine pure_ (i := 0) (N := some 30) (v := ?_) (a' := ?_) #[oI, oO, oO, oO, oO, oO, oO, oO, oO, oO, oO, oO, oO, oO, oO, oO, oO, oO, oO, oO, oO, oO, oO, oO, oO, oO, oO, oO, oO, oO, oO, oO, oO, oO, oO, oO, oO, oO, oO, oO, oO, oO, oO, oO, oO, oO, oO, oO, oO, oO, oO, oO, oO, oO, oO] rfl rfl (any_of HT_.out (by kernel_rfl)) (fun _ _ _ h => h) (Or.inl ⟨by rfl, ?_⟩) ?_ ?_
                    rotate_left
                    · intro w'
                      go_simp
                      with_reducible rfl
                    rotate_left
                    · simp only [Act.put, List.setIfInBounds_toArray, List.set_cons_zero, List.set_cons_succ, i64_w, i32_w]
                      rfl
                    refine pure_ (i := 1) (N := some 31) (v := ?_) (a' := ?_) #[oI, oI, oO, oO, oO, oO, oO, oO, oO, oO, oO, oO, oO, oO, oO, oO, oO, oO, oO, oO, oO, oO, oO, oO, oO, oO, oO, oO, oO, oO, oO, oO, oO, oO, oO, oO, oO, oO, oO, oO, oO, oO, oO, oO, oO, oO, oO, oO, oO, oO, oO, oO, oO, oO, oO] rfl rfl (any_of HT_.out (by kernel_rfl)) (fun _ _ _ h => h) (Or.inl ⟨by rfl, ?_⟩) ?_ ?_
                    rotate_left
                    · intro w'
                      go_simp
                      with_reducible rfl
                    rotate_left
                    · simp only [Act.put, List.setIfInBounds_toArray, List.set_cons_zero, List.set_cons_succ, i64_w, i32_w]
                      rfl
                    refine pure_ (i := 2) (N := some 32) (v := ?_) (a' := ?_) #[oI, oI, oI, oO, oO, oO, oO, oO, oO, oO, oO, oO, oO, oO, oO, oO, oO, oO, oO, oO, oO, oO, oO, oO, oO, oO, oO, oO, oO, oO, oO, oO, oO, oO, oO, oO, oO, oO, oO, oO, oO, oO, oO, oO, oO, oO, oO, oO, oO, oO, oO, oO, oO, oO, oO] rfl rfl (any_of HT_.out (by kernel_rfl)) (fun _ _ _ h => h) (Or.inl ⟨by rfl, ?_⟩) ?_ ?_
                    rotate_left
                    · intro w'
                      go_simp
                      with_reducible rfl
                    rotate_left
                    · simp only [Act.put, List.setIfInBounds_toArray, List.set_cons_zero, List.set_cons_succ, i64_w, i32_w]
                      rfl
                    refine pure_ (i := 3) (N := some 33) (v := ?_) (a' := ?_) #[oI, oI, oI, oI, oO, oO, oO, oO, oO, oO, oO, oO, oO, oO, oO, oO, oO, oO, oO, oO, oO, oO, oO, oO, oO, oO, oO, oO, oO, oO, oO, oO, oO, oO, oO, oO, oO, oO, oO, oO, oO, oO, oO, oO, oO, oO, oO, oO, oO, oO, oO, oO, oO, oO, oO] rfl rfl (any_of HT_.out (by kernel_rfl)) (fun _ _ _ h => h) (Or.inl ⟨by rfl, ?_⟩) ?_ ?_
                    rotate_left
                    · intro w'
                      go_simp
                      with_reducible rfl
                    rotate_left
                    · simp only [Act.put, List.setIfInBounds_toArray, List.set_cons_zero, List.set_cons_succ, i64_w, i32_w]
                      rfl
                    refine pure_ (i := 4) (N := some 34) (v := ?_) (a' := ?_) #[oI, oI, oI, oI, oI, oO, oO, oO, oO, oO, oO, oO, oO, oO, oO, oO, oO, oO, oO, oO, oO, oO, oO, oO, oO, oO, oO, oO, oO, oO, oO, oO, oO, oO, oO, oO, oO, oO, oO, oO, oO, oO, oO, oO, oO, oO, oO, oO, oO, oO, oO, oO, oO, oO, oO] rfl rfl (any_of HT_.out (by kernel_rfl)) (fun _ _ _ h => h) (Or.inl ⟨by rfl, ?_⟩) ?_ ?_
                    rotate_left
                    · intro w'
                      go_simp
                      with_reducible rfl
                    rotate_left
                    · simp only [Act.put, List.setIfInBounds_toArray, List.set_cons_zero, List.set_cons_succ, i64_w, i32_w]
                      rfl
                    refine pure_ (i := 5) (N := some 35) (v := ?_) (a' := ?_) #[oI, oI, oI, oI, oI, oI, oO, oO, oO, oO, oO, oO, oO, oO, oO, oO, oO, oO, oO, oO, oO, oO, oO, oO, oO, oO, oO, oO, oO, oO, oO, oO, oO, oO, oO, oO, oO, oO, oO, oO, oO, oO, oO, oO, oO, oO, oO, oO, oO, oO, oO, oO, oO, oO, oO] rfl rfl (any_of HT_.out (by kernel_rfl)) (fun _ _ _ h => h) (Or.inl ⟨by rfl, ?_⟩) ?_ ?_
                    rotate_left
                    · intro w'
                      go_simp
                      with_reducible rfl
                    rotate_left
                    · simp only [Act.put, List.setIfInBounds_toArray, List.set_cons_zero, List.set_cons_succ, i64_w, i32_w]
                      rfl
                    refine pure_ (i := 6) (N := some 36) (v := ?_) (a' := ?_) #[oI, oI, oI, oI, oI, oI, oI, oO, oO, oO, oO, oO, oO, oO, oO, oO, oO, oO, oO, oO, oO, oO, oO, oO, oO, oO, oO, oO, oO, oO, oO, oO, oO, oO, oO, oO, oO, oO, oO, oO, oO, oO, oO, oO, oO, oO, oO, oO, oO, oO, oO, oO, oO, oO, oO] rfl rfl (any_of HT_.out (by kernel_rfl)) (fun _ _ _ h => h) (Or.inl ⟨by rfl, ?_⟩) ?_ ?_
                    rotate_left
                    · intro w'
                      go_simp
                      with_reducible rfl
                    rotate_left
                    · simp only [Act.put, List.setIfInBounds_toArray, List.set_cons_zero, List.set_cons_succ, i64_w, i32_w]
                      rfl
                    refine pure_ (i := 7) (N := some 37) (v := ?_) (a' := ?_) #[oI, oI, oI, oI, oI, oI, oI, oI, oO, oO, oO, oO, oO, oO, oO, oO, oO, oO, oO, oO, oO, oO, oO, oO, oO, oO, oO, oO, oO, oO, oO, oO, oO, oO, oO, oO, oO, oO, oO, oO, oO, oO, oO, oO, oO, oO, oO, oO, oO, oO, oO, oO, oO, oO, oO] rfl rfl (any_of HT_.out (by kernel_rfl)) (fun _ _ _ h => h) (Or.inl ⟨by rfl, ?_⟩) ?_ ?_
                    rotate_left
                    · intro w'
                      go_simp
                      with_reducible rfl
                    rotate_left
                    · simp only [Act.put, List.setIfInBounds_toArray, List.set_cons_zero, List.set_cons_succ, i64_w, i32_w]
                      rfl
                    refine pure_ (i := 9) (N := some 39) (v := ?_) (a' := ?_) #[oI, oI, oI, oI, oI, oI, oI, oI, oO, oI, oO, oO, oO, oO, oO, oO, oO, oO, oO, oO, oO, oO, oO, oO, oO, oO, oO, oO, oO, oO, oO, oO, oO, oO, oO, oO, oO, oO, oO, oO, oO, oO, oO, oO, oO, oO, oO, oO, oO, oO, oO, oO, oO, oO, oO] rfl rfl (any_of HT_.out (by kernel_rfl)) (fun _ _ _ h => h) (Or.inl ⟨by rfl, ?_⟩) ?_ ?_
                    rotate_left
                    · intro w'
                      go_simp
                      with_reducible rfl
                    rotate_left
                    · simp only [Act.put, List.setIfInBounds_toArray, List.set_cons_zero, List.set_cons_succ, i64_w, i32_w]
                      rfl
                    refine take_ (i := 8) (N := some 38) (v := ?_) (a' := ?_) #[oI, oI, oI, oI, oI, oI, oI, oI, oI, oI, oO, oO, oO, oO, oO, oO, oO, oO, oO, oO, oO, oO, oO, oO, oO, oO, oO, oO, oO, oO, oO, oO, oO, oO, oO, oO, oO, oO, oO, oO, oO, oO, oO, oO, oO, oO, oO, oO, oO, oO, oO, oO, oO, oO, oO] rfl rfl (take_ofW HT_.out HW_.out (by kernel_rfl)) (fun _ _ _ h => h) (Or.inl ⟨by rfl, ?_⟩) hHeld ?_ ?_
                    rotate_left
                    · rintro w' ⟨s0, s1, s2, s3, s4, s5, s6, s7, s8⟩
                      go_simp
                      with_reducible rfl
                    rotate_left
                    · simp only [Act.put, List.setIfInBounds_toArray, List.set_cons_zero, List.set_cons_succ, i64_w, i32_w]
                      rfl
                    refine take_ (i := 10) (N := some 40) (v := ?_) (a' := ?_) #[oI, oI, oI, oI, oI, oI, oI, oI, oI, oI, oI, oO, oO, oO, oO, oO, oO, oO, oO, oO, oO, oO, oO, oO, oO, oO, oO, oO, oO, oO, oO, oO, oO, oO, oO, oO, oO, oO, oO, oO, oO, oO, oO, oO, oO, oO, oO, oO, oO, oO, oO, oO, oO, oO, oO] rfl rfl (take_ofW HT_.out HW_.out (by kernel_rfl)) (fun _ _ _ h => h) (Or.inl ⟨by rfl, ?_⟩) hHeld ?_ ?_
                    rotate_left
                    · rintro w' ⟨s0, s1, s2, s3, s4, s5, s6, s7, s8⟩
                      go_simp
                      with_reducible rfl
                    rotate_left
                    · simp only [Act.put, List.setIfInBounds_toArray, List.set_cons_zero, List.set_cons_succ, i64_w, i32_w]
                      rfl
                    refine pure_ (i := 11) (N := some 41) (v := ?_) (a' := ?_) #[oI, oI, oI, oI, oI, oI, oI, oI, oI, oI, oI, oI, oO, oO, oO, oO, oO, oO, oO, oO, oO, oO, oO, oO, oO, oO, oO, oO, oO, oO, oO, oO, oO, oO, oO, oO, oO, oO, oO, oO, oO, oO, oO, oO, oO, oO, oO, oO, oO, oO, oO, oO, oO, oO, oO] rfl rfl (any_of HT_.out (by kernel_rfl)) (fun _ _ _ h => h) (Or.inl ⟨by rfl, ?_⟩) ?_ ?_
                    rotate_left
                    · intro w'
                      go_simp
                      with_reducible rfl
                    rotate_left
                    · simp only [Act.put, List.setIfInBounds_toArray, List.set_cons_zero, List.set_cons_succ, i64_w, i32_w]
                      rfl
                    refine pure_ (i := 12) (N := some 42) (v := ?_) (a' := ?_) #[oI, oI, oI, oI, oI, oI, oI, oI, oI, oI, oI, oI, oI, oO, oO, oO, oO, oO, oO, oO, oO, oO, oO, oO, oO, oO, oO, oO, oO, oO, oO, oO, oO, oO, oO, oO, oO, oO, oO, oO, oO, oO, oO, oO, oO, oO, oO, oO, oO, oO, oO, oO, oO, oO, oO] rfl rfl (any_of HT_.out (by kernel_rfl)) (fun _ _ _ h => h) (Or.inl ⟨by rfl, ?_⟩) ?_ ?_
                    rotate_left
                    · intro w'
                      go_simp
                      with_reducible rfl
                    rotate_left
                    · simp only [Act.put, List.setIfInBounds_toArray, List.set_cons_zero, List.set_cons_succ, i64_w, i32_w]
                      rfl
                    refine pure_ (i := 13) (N := some 43) (v := ?_) (a' := ?_) #[oI, oI, oI, oI, oI, oI, oI, oI, oI, oI, oI, oI, oI, oI, oO, oO, oO, oO, oO, oO, oO, oO, oO, oO, oO, oO, oO, oO, oO, oO, oO, oO, oO, oO, oO, oO, oO, oO, oO, oO, oO, oO, oO, oO, oO, oO, oO, oO, oO, oO, oO, oO, oO, oO, oO] rfl rfl (any_of HT_.out (by kernel_rfl)) (fun _ _ _ h => h) (Or.inl ⟨by rfl, ?_⟩) ?_ ?_
                    rotate_left
                    · intro w'
                      go_simp
                      with_reducible rfl
                    rotate_left
                    · simp only [Act.put, List.setIfInBounds_toArray, List.set_cons_zero, List.set_cons_succ, i64_w, i32_w]
                      rfl
                    refine pure_ (i := 15) (N := some 45) (v := ?_) (a' := ?_) #[oI, oI, oI, oI, oI, oI, oI, oI, oI, oI, oI, oI, oI, oI, oO, oI, oO, oO, oO, oO, oO, oO, oO, oO, oO, oO, oO, oO, oO, oO, oO, oO, oO, oO, oO, oO, oO, oO, oO, oO, oO, oO, oO, oO, oO, oO, oO, oO, oO, oO, oO, oO, oO, oO, oO] rfl rfl (any_of HT_.out (by kernel_rfl)) (fun _ _ _ h => h) (Or.inl ⟨by rfl, ?_⟩) ?_ ?_
                    rotate_left
                    · intro w'
                      go_simp
                      with_reducible rfl
                    rotate_left
                    · simp only [Act.put, List.setIfInBounds_toArray, List.set_cons_zero, List.set_cons_succ, i64_w, i32_w]
                      rfl
                    refine pure_ (i := 16) (N := some 46) (v := ?_) (a' := ?_) #[oI, oI, oI, oI, oI, oI, oI, oI, oI, oI, oI, oI, oI, oI, oO, oI, oI, oO, oO, oO, oO, oO, oO, oO, oO, oO, oO, oO, oO, oO, oO, oO, oO, oO, oO, oO, oO, oO, oO, oO, oO, oO, oO, oO, oO, oO, oO, oO, oO, oO, oO, oO, oO, oO, oO] rfl rfl (any_of HT_.out (by kernel_rfl)) (fun _ _ _ h => h) (Or.inl ⟨by rfl, ?_⟩) ?_ ?_
                    rotate_left
                    · intro w'
                      go_simp
                      with_reducible rfl
                    rotate_left
                    · simp only [Act.put, List.setIfInBounds_toArray, List.set_cons_zero, List.set_cons_succ, i64_w, i32_w]
                      rfl
                    refine take_ (i := 14) (N := some 44) (v := ?_) (a' := ?_) #[oI, oI, oI, oI, oI, oI, oI, oI, oI, oI, oI, oI, oI, oI, oI, oI, oI, oO, oO, oO, oO, oO, oO, oO, oO, oO, oO, oO, oO, oO, oO, oO, oO, oO, oO, oO, oO, oO, oO, oO, oO, oO, oO, oO, oO, oO, oO, oO, oO, oO, oO, oO, oO, oO, oO] rfl rfl (take_ofW HT_.out HW_.out (by kernel_rfl)) (fun _ _ _ h => h) (Or.inl ⟨by rfl, ?_⟩) hHeld ?_ ?_
                    rotate_left
                    · rintro w' ⟨s0, s1, s2, s3, s4, s5, s6, s7, s8⟩
                      go_simp
                      with_reducible rfl
                    rotate_left
                    · simp only [Act.put, List.setIfInBounds_toArray, List.set_cons_zero, List.set_cons_succ, i64_w, i32_w]
                      rfl
                    refine take_ (i := 18) (N := some 48) (v := ?_) (a' := ?_) #[oI, oI, oI, oI, oI, oI, oI, oI, oI, oI, oI, oI, oI, oI, oI, oI, oI, oO, oI, oO, oO, oO, oO, oO, oO, oO, oO, oO, oO, oO, oO, oO, oO, oO, oO, oO, oO, oO, oO, oO, oO, oO, oO, oO, oO, oO, oO, oO, oO, oO, oO, oO, oO, oO, oO] rfl rfl (take_ofW HT_.out HW_.out (by kernel_rfl)) (fun _ _ _ h => h) (Or.inl ⟨by rfl, ?_⟩) hHeld ?_ ?_
                    rotate_left
                    · rintro w' ⟨s0, s1, s2, s3, s4, s5, s6, s7, s8⟩
                      go_simp
                      with_reducible rfl
                    rotate_left
                    · simp only [Act.put, List.setIfInBounds_toArray, List.set_cons_zero, List.set_cons_succ, i64_w, i32_w]
                      rfl
                    refine one_ (i := 17) (N := some 47) #[oI, oI, oI, oI, oI, oI, oI, oI, oI, oI, oI, oI, oI, oI, oI, oI, oI, oI, oI, oO, oO, oO, oO, oO, oO, oO, oO, oO, oO, oO, oO, oO, oO, oO, oO, oO, oO, oO, oO, oO, oO, oO, oO, oO, oO, oO, oO, oO, oO, oO, oO, oO, oO, oO, oO] rfl rfl (one_of HT_.out (by kernel_rfl)) (by decide) (fun K hK => ?_)
                    refine goes_ Try.func16 (by kernel_rfl) rfl #[.agg #[.int .u64 t412, .int .u64 t413, .int .i64 t414], .int .i64 a1, .int .i64 a2] (by rfl) rfl rfl (by (try simp only [List.map_toArray, List.map_cons, List.map_nil]); first | done | rfl | (simp only [List.length_drop, List.length_take]; rfl)) ?_
                    with_reducible refine (meter_Count.calls t412 t413 t414 a1 a2 t425 t426 t427 _ A13.out).mono ?_
                    rintro e w77 ⟨rfl, hb⟩
                    refine ⟨_, rfl, ?_⟩
                    have n0_ := Aside0.mk (blk_below (g := gb409) (o := .cells #[.int .u64 a0_0, .int .u64 a0_1, .int .i64 a0_2] 24 (0, 0)) (by (with_reducible repeat (first | refine qN ?_ _ | refine qD ?_ | refine qA ?_ _)); exact BK409.out) hb)
                    have n1_ := Aside0.mk (blk_below (g := gb416) (o := .cells #[.int .u64 t412, .int .u64 t413, .int .i64 t414] 24 (0, 0)) (by (with_reducible repeat (first | refine qN ?_ _ | refine qD ?_ | refine qA ?_ _)); exact BK416.out) hb)
                    have n2_ := Aside0.mk (blk_below (g := gb424) (o := .cells #[.int .u64 t420, .int .u64 t421, .int .i64 t422] 24 (0, 0)) (by (with_reducible repeat (first | refine qN ?_ _ | refine qD ?_ | refine qA ?_ _)); exact BK424.out) hb)
                    have n3_ := Aside0.mk (below_step (by repeat (first | (with_reducible first | exact HB.out | apply pA | apply pN | apply pD | refine pS ?_ GE409.out | refine pS ?_ GE416.out | refine pS ?_ GE424.out) | exact HB.out)) hb)
                    clear BK409
                    clear BK416
                    clear BK424
                    clear HB
                    have BK409 := n0_
                    have BK416 := n1_
                    have BK424 := n2_
                    have HB := n3_
                    clear n0_ n1_ n2_ n3_
                    (try clear hb)
                    (try clear hb2)
                    (try clear hk)
                    (try clear hi)
                    refine hK.out _ _ ⟨(blk_cell BK416.out 0).trans rfl, (blk_cell BK416.out 1).trans rfl, (blk_cell BK416.out 2).trans rfl, (blk_cell BK424.out 0).trans rfl, (blk_cell BK424.out 1).trans rfl, (blk_cell BK424.out 2).trans rfl, (blk_cell BK409.out 0).trans rfl, (blk_cell BK409.out 1).trans rfl, (blk_cell BK409.out 2).trans rfl⟩ (fun hHeld => ?_)
                    clear hK K
                    refine norm_ (a' := ?_) ?_ ?_
                    rotate_left
                    · show Act.put _ (some 47) _ = _
                      simp only [Act.put, List.setIfInBounds_toArray, List.set_cons_zero, List.set_cons_succ, i64_w, i32_w]
                      rfl
                    refine pure_ (i := 19) (N := some 49) (v := ?_) (a' := ?_) #[oI, oI, oI, oI, oI, oI, oI, oI, oI, oI, oI, oI, oI, oI, oI, oI, oI, oI, oI, oI, oO, oO, oO, oO, oO, oO, oO, oO, oO, oO, oO, oO, oO, oO, oO, oO, oO, oO, oO, oO, oO, oO, oO, oO, oO, oO, oO, oO, oO, oO, oO, oO, oO, oO, oO] rfl rfl (any_of HT_.out (by kernel_rfl)) (fun _ _ _ h => h) (Or.inl ⟨by rfl, ?_⟩) ?_ ?_
                    rotate_left
                    · intro w'
                      go_simp
                      with_reducible rfl
                    rotate_left
                    · simp only [Act.put, List.setIfInBounds_toArray, List.set_cons_zero, List.set_cons_succ, i64_w, i32_w]
                      rfl
                    refine pure_ (i := 20) (N := some 50) (v := ?_) (a' := ?_) #[oI, oI, oI, oI, oI, oI, oI, oI, oI, oI, oI, oI, oI, oI, oI, oI, oI, oI, oI, oI, oI, oO, oO, oO, oO, oO, oO, oO, oO, oO, oO, oO, oO, oO, oO, oO, oO, oO, oO, oO, oO, oO, oO, oO, oO, oO, oO, oO, oO, oO, oO, oO, oO, oO, oO] rfl rfl (any_of HT_.out (by kernel_rfl)) (fun _ _ _ h => h) (Or.inl ⟨by rfl, ?_⟩) ?_ ?_
                    rotate_left
                    · intro w'
                      go_simp
                      with_reducible rfl
                    rotate_left
                    · simp only [Act.put, List.setIfInBounds_toArray, List.set_cons_zero, List.set_cons_succ, i64_w, i32_w]
                      rfl
                    refine pure_ (i := 21) (N := some 51) (v := ?_) (a' := ?_) #[oI, oI, oI, oI, oI, oI, oI, oI, oI, oI, oI, oI, oI, oI, oI, oI, oI, oI, oI, oI, oI, oI, oO, oO, oO, oO, oO, oO, oO, oO, oO, oO, oO, oO, oO, oO, oO, oO, oO, oO, oO, oO, oO, oO, oO, oO, oO, oO, oO, oO, oO, oO, oO, oO, oO] rfl rfl (any_of HT_.out (by kernel_rfl)) (fun _ _ _ h => h) (Or.inl ⟨by rfl, ?_⟩) ?_ ?_
                    rotate_left
                    · intro w'
                      go_simp
                      with_reducible rfl
                    rotate_left
                    · simp only [Act.put, List.setIfInBounds_toArray, List.set_cons_zero, List.set_cons_succ, i64_w, i32_w]
                      rfl
                    refine pure_ (i := 22) (N := some 52) (v := ?_) (a' := ?_) #[oI, oI, oI, oI, oI, oI, oI, oI, oI, oI, oI, oI, oI, oI, oI, oI, oI, oI, oI, oI, oI, oI, oI, oO, oO, oO, oO, oO, oO, oO, oO, oO, oO, oO, oO, oO, oO, oO, oO, oO, oO, oO, oO, oO, oO, oO, oO, oO, oO, oO, oO, oO, oO, oO, oO] rfl rfl (any_of HT_.out (by kernel_rfl)) (fun _ _ _ h => h) (Or.inl ⟨by rfl, ?_⟩) ?_ ?_
                    rotate_left
                    · intro w'
                      go_simp
                      with_reducible rfl
                    rotate_left
                    · simp only [Act.put, List.setIfInBounds_toArray, List.set_cons_zero, List.set_cons_succ, i64_w, i32_w]
                      rfl
                    refine pure_ (i := 24) (N := some 54) (v := ?_) (a' := ?_) #[oI, oI, oI, oI, oI, oI, oI, oI, oI, oI, oI, oI, oI, oI, oI, oI, oI, oI, oI, oI, oI, oI, oI, oO, oI, oO, oO, oO, oO, oO, oO, oO, oO, oO, oO, oO, oO, oO, oO, oO, oO, oO, oO, oO, oO, oO, oO, oO, oO, oO, oO, oO, oO, oO, oO] rfl rfl (any_of HT_.out (by kernel_rfl)) (fun _ _ _ h => h) (Or.inl ⟨by rfl, ?_⟩) ?_ ?_
                    rotate_left
                    · intro w'
                      go_simp
                      with_reducible rfl
                    rotate_left
                    · simp only [Act.put, List.setIfInBounds_toArray, List.set_cons_zero, List.set_cons_succ, i64_w, i32_w]
                      rfl
                    refine take_ (i := 23) (N := some 53) (v := ?_) (a' := ?_) #[oI, oI, oI, oI, oI, oI, oI, oI, oI, oI, oI, oI, oI, oI, oI, oI, oI, oI, oI, oI, oI, oI, oI, oI, oI, oO, oO, oO, oO, oO, oO, oO, oO, oO, oO, oO, oO, oO, oO, oO, oO, oO, oO, oO, oO, oO, oO, oO, oO, oO, oO, oO, oO, oO, oO] rfl rfl (take_ofW HT_.out HW_.out (by kernel_rfl)) (fun _ _ _ h => h) (Or.inl ⟨by rfl, ?_⟩) hHeld ?_ ?_
                    rotate_left
                    · rintro w' ⟨s0, s1, s2, s3, s4, s5, s6, s7, s8⟩
                      go_simp
                      with_reducible rfl
                    rotate_left
                    · simp only [Act.put, List.setIfInBounds_toArray, List.set_cons_zero, List.set_cons_succ, i64_w, i32_w]
                      rfl
                    refine take_ (i := 25) (N := some 55) (v := ?_) (a' := ?_) #[oI, oI, oI, oI, oI, oI, oI, oI, oI, oI, oI, oI, oI, oI, oI, oI, oI, oI, oI, oI, oI, oI, oI, oI, oI, oI, oO, oO, oO, oO, oO, oO, oO, oO, oO, oO, oO, oO, oO, oO, oO, oO, oO, oO, oO, oO, oO, oO, oO, oO, oO, oO, oO, oO, oO] rfl rfl (take_ofW HT_.out HW_.out (by kernel_rfl)) (fun _ _ _ h => h) (Or.inl ⟨by rfl, ?_⟩) hHeld ?_ ?_
                    rotate_left
                    · rintro w' ⟨s0, s1, s2, s3, s4, s5, s6, s7, s8⟩
                      go_simp
                      with_reducible rfl
                    rotate_left
                    · simp only [Act.put, List.setIfInBounds_toArray, List.set_cons_zero, List.set_cons_succ, i64_w, i32_w]
                      rfl
                    refine pure_ (i := 26) (N := some 56) (v := ?_) (a' := ?_) #[oI, oI, oI, oI, oI, oI, oI, oI, oI, oI, oI, oI, oI, oI, oI, oI, oI, oI, oI, oI, oI, oI, oI, oI, oI, oI, oI, oO, oO, oO, oO, oO, oO, oO, oO, oO, oO, oO, oO, oO, oO, oO, oO, oO, oO, oO, oO, oO, oO, oO, oO, oO, oO, oO, oO] rfl rfl (any_of HT_.out (by kernel_rfl)) (fun _ _ _ h => h) (Or.inl ⟨by rfl, ?_⟩) ?_ ?_
                    rotate_left
                    · intro w'
                      go_simp
                      with_reducible rfl
                    rotate_left
                    · simp only [Act.put, List.setIfInBounds_toArray, List.set_cons_zero, List.set_cons_succ, i64_w, i32_w]
                      rfl
                    refine pure_ (i := 27) (N := some 57) (v := ?_) (a' := ?_) #[oI, oI, oI, oI, oI, oI, oI, oI, oI, oI, oI, oI, oI, oI, oI, oI, oI, oI, oI, oI, oI, oI, oI, oI, oI, oI, oI, oI, oO, oO, oO, oO, oO, oO, oO, oO, oO, oO, oO, oO, oO, oO, oO, oO, oO, oO, oO, oO, oO, oO, oO, oO, oO, oO, oO] rfl rfl (any_of HT_.out (by kernel_rfl)) (fun _ _ _ h => h) (Or.inl ⟨by rfl, ?_⟩) ?_ ?_
                    rotate_left
                    · intro w'
                      go_simp
                      with_reducible rfl
                    rotate_left
                    · simp only [Act.put, List.setIfInBounds_toArray, List.set_cons_zero, List.set_cons_succ, i64_w, i32_w]
                      rfl
                    refine pure_ (i := 28) (N := some 58) (v := ?_) (a' := ?_) #[oI, oI, oI, oI, oI, oI, oI, oI, oI, oI, oI, oI, oI, oI, oI, oI, oI, oI, oI, oI, oI, oI, oI, oI, oI, oI, oI, oI, oI, oO, oO, oO, oO, oO, oO, oO, oO, oO, oO, oO, oO, oO, oO, oO, oO, oO, oO, oO, oO, oO, oO, oO, oO, oO, oO] rfl rfl (any_of HT_.out (by kernel_rfl)) (fun _ _ _ h => h) (Or.inl ⟨by rfl, ?_⟩) ?_ ?_
                    rotate_left
                    · intro w'
                      go_simp
                      with_reducible rfl
                    rotate_left
                    · simp only [Act.put, List.setIfInBounds_toArray, List.set_cons_zero, List.set_cons_succ, i64_w, i32_w]
                      rfl
                    refine pure_ (i := 29) (N := some 59) (v := ?_) (a' := ?_) #[oI, oI, oI, oI, oI, oI, oI, oI, oI, oI, oI, oI, oI, oI, oI, oI, oI, oI, oI, oI, oI, oI, oI, oI, oI, oI, oI, oI, oI, oI, oO, oO, oO, oO, oO, oO, oO, oO, oO, oO, oO, oO, oO, oO, oO, oO, oO, oO, oO, oO, oO, oO, oO, oO, oO] rfl rfl (any_of HT_.out (by kernel_rfl)) (fun _ _ _ h => h) (Or.inl ⟨by rfl, ?_⟩) ?_ ?_
                    rotate_left
                    · intro w'
                      go_simp
                      with_reducible rfl
                    rotate_left
                    · simp only [Act.put, List.setIfInBounds_toArray, List.set_cons_zero, List.set_cons_succ, i64_w, i32_w]
                      rfl
                    refine pure_ (i := 31) (N := some 61) (v := ?_) (a' := ?_) #[oI, oI, oI, oI, oI, oI, oI, oI, oI, oI, oI, oI, oI, oI, oI, oI, oI, oI, oI, oI, oI, oI, oI, oI, oI, oI, oI, oI, oI, oI, oO, oI, oO, oO, oO, oO, oO, oO, oO, oO, oO, oO, oO, oO, oO, oO, oO, oO, oO, oO, oO, oO, oO, oO, oO] rfl rfl (any_of HT_.out (by kernel_rfl)) (fun _ _ _ h => h) (Or.inl ⟨by rfl, ?_⟩) ?_ ?_
                    rotate_left
                    · intro w'
                      go_simp
                      with_reducible rfl
                    rotate_left
                    · simp only [Act.put, List.setIfInBounds_toArray, List.set_cons_zero, List.set_cons_succ, i64_w, i32_w]
                      rfl
                    refine take_ (i := 30) (N := some 60) (v := ?_) (a' := ?_) #[oI, oI, oI, oI, oI, oI, oI, oI, oI, oI, oI, oI, oI, oI, oI, oI, oI, oI, oI, oI, oI, oI, oI, oI, oI, oI, oI, oI, oI, oI, oI, oI, oO, oO, oO, oO, oO, oO, oO, oO, oO, oO, oO, oO, oO, oO, oO, oO, oO, oO, oO, oO, oO, oO, oO] rfl rfl (take_ofW HT_.out HW_.out (by kernel_rfl)) (fun _ _ _ h => h) (Or.inl ⟨by rfl, ?_⟩) hHeld ?_ ?_
                    rotate_left
                    · rintro w' ⟨s0, s1, s2, s3, s4, s5, s6, s7, s8⟩
                      go_simp
                      with_reducible rfl
                    rotate_left
                    · simp only [Act.put, List.setIfInBounds_toArray, List.set_cons_zero, List.set_cons_succ, i64_w, i32_w]
                      rfl
                    refine take_ (i := 32) (N := some 62) (v := ?_) (a' := ?_) #[oI, oI, oI, oI, oI, oI, oI, oI, oI, oI, oI, oI, oI, oI, oI, oI, oI, oI, oI, oI, oI, oI, oI, oI, oI, oI, oI, oI, oI, oI, oI, oI, oI, oO, oO, oO, oO, oO, oO, oO, oO, oO, oO, oO, oO, oO, oO, oO, oO, oO, oO, oO, oO, oO, oO] rfl rfl (take_ofW HT_.out HW_.out (by kernel_rfl)) (fun _ _ _ h => h) (Or.inl ⟨by rfl, ?_⟩) hHeld ?_ ?_
                    rotate_left
                    · rintro w' ⟨s0, s1, s2, s3, s4, s5, s6, s7, s8⟩
                      go_simp
                      with_reducible rfl
                    rotate_left
                    · simp only [Act.put, List.setIfInBounds_toArray, List.set_cons_zero, List.set_cons_succ, i64_w, i32_w]
                      rfl
                    refine pure_ (i := 33) (N := some 63) (v := ?_) (a' := ?_) #[oI, oI, oI, oI, oI, oI, oI, oI, oI, oI, oI, oI, oI, oI, oI, oI, oI, oI, oI, oI, oI, oI, oI, oI, oI, oI, oI, oI, oI, oI, oI, oI, oI, oI, oO, oO, oO, oO, oO, oO, oO, oO, oO, oO, oO, oO, oO, oO, oO, oO, oO, oO, oO, oO, oO] rfl rfl (any_of HT_.out (by kernel_rfl)) (fun _ _ _ h => h) (Or.inl ⟨by rfl, ?_⟩) ?_ ?_
                    rotate_left
                    · intro w'
                      go_simp
                      with_reducible rfl
                    rotate_left
                    · simp only [Act.put, List.setIfInBounds_toArray, List.set_cons_zero, List.set_cons_succ, i64_w, i32_w]
                      rfl
                    refine pure_ (i := 34) (N := some 64) (v := ?_) (a' := ?_) #[oI, oI, oI, oI, oI, oI, oI, oI, oI, oI, oI, oI, oI, oI, oI, oI, oI, oI, oI, oI, oI, oI, oI, oI, oI, oI, oI, oI, oI, oI, oI, oI, oI, oI, oI, oO, oO, oO, oO, oO, oO, oO, oO, oO, oO, oO, oO, oO, oO, oO, oO, oO, oO, oO, oO] rfl rfl (any_of HT_.out (by kernel_rfl)) (fun _ _ _ h => h) (Or.inl ⟨by rfl, ?_⟩) ?_ ?_
                    rotate_left
                    · intro w'
                      go_simp
                      with_reducible rfl
                    rotate_left
                    · simp only [Act.put, List.setIfInBounds_toArray, List.set_cons_zero, List.set_cons_succ, i64_w, i32_w]
                      rfl
                    refine pure_ (i := 35) (N := some 65) (v := ?_) (a' := ?_) #[oI, oI, oI, oI, oI, oI, oI, oI, oI, oI, oI, oI, oI, oI, oI, oI, oI, oI, oI, oI, oI, oI, oI, oI, oI, oI, oI, oI, oI, oI, oI, oI, oI, oI, oI, oI, oO, oO, oO, oO, oO, oO, oO, oO, oO, oO, oO, oO, oO, oO, oO, oO, oO, oO, oO] rfl rfl (any_of HT_.out (by kernel_rfl)) (fun _ _ _ h => h) (Or.inl ⟨by rfl, ?_⟩) ?_ ?_
                    rotate_left
                    · intro w'
                      go_simp
                      with_reducible rfl
                    rotate_left
                    · simp only [Act.put, List.setIfInBounds_toArray, List.set_cons_zero, List.set_cons_succ, i64_w, i32_w]
                      rfl
                    refine pure_ (i := 36) (N := some 66) (v := ?_) (a' := ?_) #[oI, oI, oI, oI, oI, oI, oI, oI, oI, oI, oI, oI, oI, oI, oI, oI, oI, oI, oI, oI, oI, oI, oI, oI, oI, oI, oI, oI, oI, oI, oI, oI, oI, oI, oI, oI, oI, oO, oO, oO, oO, oO, oO, oO, oO, oO, oO, oO, oO, oO, oO, oO, oO, oO, oO] rfl rfl (any_of HT_.out (by kernel_rfl)) (fun _ _ _ h => h) (Or.inl ⟨by rfl, ?_⟩) ?_ ?_
                    rotate_left
                    · intro w'
                      go_simp
                      with_reducible rfl
                    rotate_left
                    · simp only [Act.put, List.setIfInBounds_toArray, List.set_cons_zero, List.set_cons_succ, i64_w, i32_w]
                      rfl
                    refine pure_ (i := 37) (N := some 67) (v := ?_) (a' := ?_) #[oI, oI, oI, oI, oI, oI, oI, oI, oI, oI, oI, oI, oI, oI, oI, oI, oI, oI, oI, oI, oI, oI, oI, oI, oI, oI, oI, oI, oI, oI, oI, oI, oI, oI, oI, oI, oI, oI, oO, oO, oO, oO, oO, oO, oO, oO, oO, oO, oO, oO, oO, oO, oO, oO, oO] rfl rfl (any_of HT_.out (by kernel_rfl)) (fun _ _ _ h => h) (Or.inl ⟨by rfl, ?_⟩) ?_ ?_
                    rotate_left
                    · intro w'
                      go_simp
                      with_reducible rfl
                    rotate_left
                    · simp only [Act.put, List.setIfInBounds_toArray, List.set_cons_zero, List.set_cons_succ, i64_w, i32_w]
                      rfl
                    refine pure_ (i := 38) (N := some 68) (v := ?_) (a' := ?_) #[oI, oI, oI, oI, oI, oI, oI, oI, oI, oI, oI, oI, oI, oI, oI, oI, oI, oI, oI, oI, oI, oI, oI, oI, oI, oI, oI, oI, oI, oI, oI, oI, oI, oI, oI, oI, oI, oI, oI, oO, oO, oO, oO, oO, oO, oO, oO, oO, oO, oO, oO, oO, oO, oO, oO] rfl rfl (any_of HT_.out (by kernel_rfl)) (fun _ _ _ h => h) (Or.inl ⟨by rfl, ?_⟩) ?_ ?_
                    rotate_left
                    · intro w'
                      go_simp
                      with_reducible rfl
                    rotate_left
                    · simp only [Act.put, List.setIfInBounds_toArray, List.set_cons_zero, List.set_cons_succ, i64_w, i32_w]
                      rfl
                    refine pure_ (i := 39) (N := some 69) (v := undef) (a' := ?_) #[oI, oI, oI, oI, oI, oI, oI, oI, oI, oI, oI, oI, oI, oI, oI, oI, oI, oI, oI, oI, oI, oI, oI, oI, oI, oI, oI, oI, oI, oI, oI, oI, oI, oI, oI, oI, oI, oI, oI, oI, oO, oO, oO, oO, oO, oO, oO, oO, oO, oO, oO, oO, oO, oO, oO] rfl rfl (any_of HT_.out (by kernel_rfl)) (fun _ _ _ h => h) (Or.inr ⟨by rfl, rfl⟩) ?_ ?_
                    rotate_left
                    · simp only [Act.put, List.setIfInBounds_toArray, List.set_cons_zero, List.set_cons_succ, i64_w, i32_w]
                      rfl
                    refine pure_ (i := 40) (N := some 70) (v := undef) (a' := ?_) #[oI, oI, oI, oI, oI, oI, oI, oI, oI, oI, oI, oI, oI, oI, oI, oI, oI, oI, oI, oI, oI, oI, oI, oI, oI, oI, oI, oI, oI, oI, oI, oI, oI, oI, oI, oI, oI, oI, oI, oI, oI, oO, oO, oO, oO, oO, oO, oO, oO, oO, oO, oO, oO, oO, oO] rfl rfl (any_of HT_.out (by kernel_rfl)) (fun _ _ _ h => h) (Or.inr ⟨by rfl, rfl⟩) ?_ ?_
                    rotate_left
                    · simp only [Act.put, List.setIfInBounds_toArray, List.set_cons_zero, List.set_cons_succ, i64_w, i32_w]
                      rfl
                    refine pure_ (i := 41) (N := some 71) (v := undef) (a' := ?_) #[oI, oI, oI, oI, oI, oI, oI, oI, oI, oI, oI, oI, oI, oI, oI, oI, oI, oI, oI, oI, oI, oI, oI, oI, oI, oI, oI, oI, oI, oI, oI, oI, oI, oI, oI, oI, oI, oI, oI, oI, oI, oI, oO, oO, oO, oO, oO, oO, oO, oO, oO, oO, oO, oO, oO] rfl rfl (any_of HT_.out (by kernel_rfl)) (fun _ _ _ h => h) (Or.inr ⟨by rfl, rfl⟩) ?_ ?_
                    rotate_left
                    · simp only [Act.put, List.setIfInBounds_toArray, List.set_cons_zero, List.set_cons_succ, i64_w, i32_w]
                      rfl
                    refine pure_ (i := 42) (N := some 72) (v := ?_) (a' := ?_) #[oI, oI, oI, oI, oI, oI, oI, oI, oI, oI, oI, oI, oI, oI, oI, oI, oI, oI, oI, oI, oI, oI, oI, oI, oI, oI, oI, oI, oI, oI, oI, oI, oI, oI, oI, oI, oI, oI, oI, oI, oI, oI, oI, oO, oO, oO, oO, oO, oO, oO, oO, oO, oO, oO, oO] rfl rfl (any_of HT_.out (by kernel_rfl)) (fun _ _ _ h => h) (Or.inl ⟨by rfl, ?_⟩) ?_ ?_
                    rotate_left
                    · intro w'
                      go_simp
                      with_reducible rfl
                    rotate_left
                    · simp only [Act.put, List.setIfInBounds_toArray, List.set_cons_zero, List.set_cons_succ, i64_w, i32_w]
                      rfl
                    refine pure_ (i := 43) (N := some 73) (v := ?_) (a' := ?_) #[oI, oI, oI, oI, oI, oI, oI, oI, oI, oI, oI, oI, oI, oI, oI, oI, oI, oI, oI, oI, oI, oI, oI, oI, oI, oI, oI, oI, oI, oI, oI, oI, oI, oI, oI, oI, oI, oI, oI, oI, oI, oI, oI, oI, oO, oO, oO, oO, oO, oO, oO, oO, oO, oO, oO] rfl rfl (any_of HT_.out (by kernel_rfl)) (fun _ _ _ h => h) (Or.inl ⟨by rfl, ?_⟩) ?_ ?_
                    rotate_left
                    · intro w'
                      go_simp
                      with_reducible rfl
                    rotate_left
                    · simp only [Act.put, List.setIfInBounds_toArray, List.set_cons_zero, List.set_cons_succ, i64_w, i32_w]
                      rfl
                    refine pure_ (i := 44) (N := some 74) (v := ?_) (a' := ?_) #[oI, oI, oI, oI, oI, oI, oI, oI, oI, oI, oI, oI, oI, oI, oI, oI, oI, oI, oI, oI, oI, oI, oI, oI, oI, oI, oI, oI, oI, oI, oI, oI, oI, oI, oI, oI, oI, oI, oI, oI, oI, oI, oI, oI, oI, oO, oO, oO, oO, oO, oO, oO, oO, oO, oO] rfl rfl (any_of HT_.out (by kernel_rfl)) (fun _ _ _ h => h) (Or.inl ⟨by rfl, ?_⟩) ?_ ?_
                    rotate_left
                    · intro w'
                      go_simp
                      with_reducible rfl
                    rotate_left
                    · simp only [Act.put, List.setIfInBounds_toArray, List.set_cons_zero, List.set_cons_succ, i64_w, i32_w]
                      rfl
                    refine pure_ (i := 45) (N := some 75) (v := ?_) (a' := ?_) #[oI, oI, oI, oI, oI, oI, oI, oI, oI, oI, oI, oI, oI, oI, oI, oI, oI, oI, oI, oI, oI, oI, oI, oI, oI, oI, oI, oI, oI, oI, oI, oI, oI, oI, oI, oI, oI, oI, oI, oI, oI, oI, oI, oI, oI, oI, oO, oO, oO, oO, oO, oO, oO, oO, oO] rfl rfl (any_of HT_.out (by kernel_rfl)) (fun _ _ _ h => h) (Or.inl ⟨by rfl, ?_⟩) ?_ ?_
                    rotate_left
                    · intro w'
                      go_simp
                      with_reducible rfl
                    rotate_left
                    · simp only [Act.put, List.setIfInBounds_toArray, List.set_cons_zero, List.set_cons_succ, i64_w, i32_w]
                      rfl
                    refine take_ (i := 46) (N := some 76) (v := ?_) (a' := ?_) #[oI, oI, oI, oI, oI, oI, oI, oI, oI, oI, oI, oI, oI, oI, oI, oI, oI, oI, oI, oI, oI, oI, oI, oI, oI, oI, oI, oI, oI, oI, oI, oI, oI, oI, oI, oI, oI, oI, oI, oI, oI, oI, oI, oI, oI, oI, oI, oO, oO, oO, oO, oO, oO, oO, oO] rfl rfl (take_ofW HT_.out HW_.out (by kernel_rfl)) (fun _ _ _ h => h) (Or.inl ⟨by rfl, ?_⟩) hHeld ?_ ?_
                    rotate_left
                    · rintro w' ⟨s0, s1, s2, s3, s4, s5, s6, s7, s8⟩
                      go_simp
                      with_reducible rfl
                    rotate_left
                    · simp only [Act.put, List.setIfInBounds_toArray, List.set_cons_zero, List.set_cons_succ, i64_w, i32_w]
                      rfl
                    refine pure_ (i := 47) (N := some 77) (v := ?_) (a' := ?_) #[oI, oI, oI, oI, oI, oI, oI, oI, oI, oI, oI, oI, oI, oI, oI, oI, oI, oI, oI, oI, oI, oI, oI, oI, oI, oI, oI, oI, oI, oI, oI, oI, oI, oI, oI, oI, oI, oI, oI, oI, oI, oI, oI, oI, oI, oI, oI, oI, oO, oO, oO, oO, oO, oO, oO] rfl rfl (any_of HT_.out (by kernel_rfl)) (fun _ _ _ h => h) (Or.inl ⟨by rfl, ?_⟩) ?_ ?_
                    rotate_left
                    · intro w'
                      go_simp
                      with_reducible rfl
                    rotate_left
                    · simp only [Act.put, List.setIfInBounds_toArray, List.set_cons_zero, List.set_cons_succ, i64_w, i32_w]
                      rfl
                    refine pure_ (i := 48) (N := some 78) (v := ?_) (a' := ?_) #[oI, oI, oI, oI, oI, oI, oI, oI, oI, oI, oI, oI, oI, oI, oI, oI, oI, oI, oI, oI, oI, oI, oI, oI, oI, oI, oI, oI, oI, oI, oI, oI, oI, oI, oI, oI, oI, oI, oI, oI, oI, oI, oI, oI, oI, oI, oI, oI, oI, oO, oO, oO, oO, oO, oO] rfl rfl (any_of HT_.out (by kernel_rfl)) (fun _ _ _ h => h) (Or.inl ⟨by rfl, ?_⟩) ?_ ?_
                    rotate_left
                    · intro w'
                      go_simp
                      with_reducible rfl
                    rotate_left
                    · simp only [Act.put, List.setIfInBounds_toArray, List.set_cons_zero, List.set_cons_succ, i64_w, i32_w]
                      rfl
                    refine pure_ (i := 49) (N := some 79) (v := undef) (a' := ?_) #[oI, oI, oI, oI, oI, oI, oI, oI, oI, oI, oI, oI, oI, oI, oI, oI, oI, oI, oI, oI, oI, oI, oI, oI, oI, oI, oI, oI, oI, oI, oI, oI, oI, oI, oI, oI, oI, oI, oI, oI, oI, oI, oI, oI, oI, oI, oI, oI, oI, oI, oO, oO, oO, oO, oO] rfl rfl (any_of HT_.out (by kernel_rfl)) (fun _ _ _ h => h) (Or.inr ⟨by rfl, rfl⟩) ?_ ?_
                    rotate_left
                    · simp only [Act.put, List.setIfInBounds_toArray, List.set_cons_zero, List.set_cons_succ, i64_w, i32_w]
                      rfl
                    refine pure_ (i := 50) (N := some 80) (v := undef) (a' := ?_) #[oI, oI, oI, oI, oI, oI, oI, oI, oI, oI, oI, oI, oI, oI, oI, oI, oI, oI, oI, oI, oI, oI, oI, oI, oI, oI, oI, oI, oI, oI, oI, oI, oI, oI, oI, oI, oI, oI, oI, oI, oI, oI, oI, oI, oI, oI, oI, oI, oI, oI, oI, oO, oO, oO, oO] rfl rfl (any_of HT_.out (by kernel_rfl)) (fun _ _ _ h => h) (Or.inr ⟨by rfl, rfl⟩) ?_ ?_
                    rotate_left
                    · simp only [Act.put, List.setIfInBounds_toArray, List.set_cons_zero, List.set_cons_succ, i64_w, i32_w]
                      rfl
                    refine pure_ (i := 51) (N := some 81) (v := undef) (a' := ?_) #[oI, oI, oI, oI, oI, oI, oI, oI, oI, oI, oI, oI, oI, oI, oI, oI, oI, oI, oI, oI, oI, oI, oI, oI, oI, oI, oI, oI, oI, oI, oI, oI, oI, oI, oI, oI, oI, oI, oI, oI, oI, oI, oI, oI, oI, oI, oI, oI, oI, oI, oI, oI, oO, oO, oO] rfl rfl (any_of HT_.out (by kernel_rfl)) (fun _ _ _ h => h) (Or.inr ⟨by rfl, rfl⟩) ?_ ?_
                    rotate_left
                    · simp only [Act.put, List.setIfInBounds_toArray, List.set_cons_zero, List.set_cons_succ, i64_w, i32_w]
                      rfl
                    refine pure_ (i := 52) (N := some 82) (v := ?_) (a' := ?_) #[oI, oI, oI, oI, oI, oI, oI, oI, oI, oI, oI, oI, oI, oI, oI, oI, oI, oI, oI, oI, oI, oI, oI, oI, oI, oI, oI, oI, oI, oI, oI, oI, oI, oI, oI, oI, oI, oI, oI, oI, oI, oI, oI, oI, oI, oI, oI, oI, oI, oI, oI, oI, oI, oO, oO] rfl rfl (any_of HT_.out (by kernel_rfl)) (fun _ _ _ h => h) (Or.inl ⟨by rfl, ?_⟩) ?_ ?_
                    rotate_left
                    · intro w'
                      go_simp
                      with_reducible rfl
                    rotate_left
                    · simp only [Act.put, List.setIfInBounds_toArray, List.set_cons_zero, List.set_cons_succ, i64_w, i32_w]
                      rfl
                    refine pure_ (i := 53) (N := some 83) (v := ?_) (a' := ?_) #[oI, oI, oI, oI, oI, oI, oI, oI, oI, oI, oI, oI, oI, oI, oI, oI, oI, oI, oI, oI, oI, oI, oI, oI, oI, oI, oI, oI, oI, oI, oI, oI, oI, oI, oI, oI, oI, oI, oI, oI, oI, oI, oI, oI, oI, oI, oI, oI, oI, oI, oI, oI, oI, oI, oO] rfl rfl (any_of HT_.out (by kernel_rfl)) (fun _ _ _ h => h) (Or.inl ⟨by rfl, ?_⟩) ?_ ?_
                    rotate_left
                    · intro w'
                      go_simp
                      with_reducible rfl
                    rotate_left
                    · simp only [Act.put, List.setIfInBounds_toArray, List.set_cons_zero, List.set_cons_succ, i64_w, i32_w]
                      rfl
                    refine pure_ (i := 54) (N := some 6) (v := ?_) (a' := ?_) #[oI, oI, oI, oI, oI, oI, oI, oI, oI, oI, oI, oI, oI, oI, oI, oI, oI, oI, oI, oI, oI, oI, oI, oI, oI, oI, oI, oI, oI, oI, oI, oI, oI, oI, oI, oI, oI, oI, oI, oI, oI, oI, oI, oI, oI, oI, oI, oI, oI, oI, oI, oI, oI, oI, oI] rfl rfl (any_of HT_.out (by kernel_rfl)) (fun _ _ _ h => h) (Or.inl ⟨by rfl, ?_⟩) ?_ ?_
                    rotate_left
                    · intro w'
                      go_simp
                      with_reducible rfl
                    rotate_left
                    · simp only [Act.put, List.setIfInBounds_toArray, List.set_cons_zero, List.set_cons_succ, i64_w, i32_w]
                      rfl
                    refine done_ (done_of HT_.out (by kernel_rfl)) ?_
                    try go_wp2
                    go_ret
                    exact ⟨by first | rfl | (simp [errW_none, errW_some] <;> rfl) | (simp [*, errW_none, errW_some] <;> rfl), by repeat (first | (with_reducible first | exact HB.out | apply pA | apply pN | apply pD | refine pS ?_ GE409.out | refine pS ?_ GE416.out | refine pS ?_ GE424.out) | exact HB.out)⟩
                  · rw [if_neg c58] at H
                    have c58b0 : decide (0 < a0_2) = false := decide_eq_false c58
                    clear c58
                    clear hlaw_
                    obtain rfl := Option.some.inj H
                    go_enter Try.func7, Try.ntmps7
                    try go_wp2_with (first | ((with_reducible refine gate_dst (N := 3) rfl ?_); refine box_event ?hg (N := 3) ?hd (cs := #[.int .u64 a0_0, .int .u64 a0_1, .int .i64 a0_2]) (t := 24) ?hr ?_; (case hd => rfl); (case hg => rfl); (case hr => first | (go_simp; done) | (go_simp; rfl)); intro gb409 hg w78 hbox hb; have n0_ := Aside0.mk (below_step (by repeat (first | (with_reducible first | exact HB.out | apply pA | apply pN | apply pD) | exact HB.out)) hb); have n1_ := Aside0.mk (hbox); have n2_ := Aside0.mk ((by rw [hg]; exact (below_size (by repeat (first | (with_reducible first | exact HB.out | apply pA | apply pN | apply pD) | exact HB.out))) : w.heap.size ≤ gb409)); have n3_ := Aside0.mk ((by rw [hg]; exact (below_size (by repeat (first | (with_reducible first | exact HB.out | apply pA | apply pN | apply pD) | exact HB.out))) : w.heap.size ≤ gb409)); clear HB; have HB := n0_; have BK409 := n1_; have GW409 := n2_; have GE409 := n3_; clear n0_ n1_ n2_ n3_; clear hb hbox hg) | ((with_reducible refine gate_callee (f := 9) rfl ?_); refine goesL_ (some 12) rfl rfl Try.func9 (by kernel_rfl) rfl #[] rfl (by (try simp only [List.map_toArray, List.map_cons, List.map_nil]); first | done | rfl | (simp only [List.length_drop, List.length_take]; rfl)) ?_; (with_reducible refine (portreevelaw17_shown.calls k  true _ A4.out).mono ?_); rintro e w79 ⟨rfl, hb⟩; refine ⟨_, rfl, ?_⟩; have n0_ := Aside0.mk (blk_below (g := gb409) (o := .cells #[.int .u64 a0_0, .int .u64 a0_1, .int .i64 a0_2] 24 (0, 0)) (by (with_reducible repeat (first | refine qN ?_ _ | refine qD ?_ | refine qA ?_ _)); exact BK409.out) hb); have n1_ := Aside0.mk (below_step (by repeat (first | (with_reducible first | exact HB.out | apply pA | apply pN | apply pD | refine pS ?_ GE409.out) | exact HB.out)) hb); clear BK409; clear HB; have BK409 := n0_; have HB := n1_; clear n0_ n1_; (try clear hb); (try clear hb2); (try clear hk); (try clear hi); have hcz80_0 : w79.cell? ⟨gb409, 0, none⟩ = some (.int .u64 a0_0) := (blk_cell BK409.out 0).trans rfl; have hcz80_1 : w79.cell? ⟨gb409, 1, none⟩ = some (.int .u64 a0_1) := (blk_cell BK409.out 1).trans rfl; have hcz80_2 : w79.cell? ⟨gb409, 2, none⟩ = some (.int .i64 a0_2) := (blk_cell BK409.out 2).trans rfl; have hfz80_0 := blk_frozen BK409.out 0; have hfz80_1 := blk_frozen BK409.out 1; have hfz80_2 := blk_frozen BK409.out 2) | ((with_reducible refine gate_callee (f := 10) rfl ?_); refine goesL_ (some 14) rfl rfl Try.func10 (by kernel_rfl) rfl #[.agg #[.int .u64 a0_0, .int .u64 a0_1, .int .i64 a0_2]] rfl (by (try simp only [List.map_toArray, List.map_cons, List.map_nil]); first | done | rfl | (simp only [List.length_drop, List.length_take]; rfl)) ?_; (with_reducible refine (portreeveref17_Right.calls a0_0 a0_1 a0_2 true _ A5.out).mono ?_); rintro e w81 ⟨rfl, hb⟩; refine ⟨_, rfl, ?_⟩; have n0_ := Aside0.mk (blk_below (g := gb409) (o := .cells #[.int .u64 a0_0, .int .u64 a0_1, .int .i64 a0_2] 24 (0, 0)) (by (with_reducible repeat (first | refine qN ?_ _ | refine qD ?_ | refine qA ?_ _)); exact BK409.out) hb); have n1_ := Aside0.mk (below_step (by repeat (first | (with_reducible first | exact HB.out | apply pA | apply pN | apply pD | refine pS ?_ GE409.out) | exact HB.out)) hb); clear BK409; clear HB; have BK409 := n0_; have HB := n1_; clear n0_ n1_; (try clear hb); (try clear hb2); (try clear hk); (try clear hi); have hcz82_0 : w81.cell? ⟨gb409, 0, none⟩ = some (.int .u64 a0_0) := (blk_cell BK409.out 0).trans rfl; have hcz82_1 : w81.cell? ⟨gb409, 1, none⟩ = some (.int .u64 a0_1) := (blk_cell BK409.out 1).trans rfl; have hcz82_2 : w81.cell? ⟨gb409, 2, none⟩ = some (.int .i64 a0_2) := (blk_cell BK409.out 2).trans rfl; have hfz82_0 := blk_frozen BK409.out 0; have hfz82_1 := blk_frozen BK409.out 1; have hfz82_2 := blk_frozen BK409.out 2) | ((with_reducible refine gate_callee (f := 14) rfl ?_); refine goesL_ (some 19) rfl rfl Try.func14 (by kernel_rfl) rfl #[.agg #[.int .u64 a0_0, .int .u64 a0_1, .int .i64 a0_2]] rfl (by (try simp only [List.map_toArray, List.map_cons, List.map_nil]); first | done | rfl | (simp only [List.length_drop, List.length_take]; rfl)) ?_; (with_reducible refine (meter_Tick.calls a0_0 a0_1 a0_2 t412 t413 t414 false _ A7.out).mono ?_); rintro e w83 ⟨rfl, hb⟩; refine ⟨_, rfl, ?_⟩; have n0_ := Aside0.mk (blk_below (g := gb409) (o := .cells #[.int .u64 a0_0, .int .u64 a0_1, .int .i64 a0_2] 24 (0, 0)) (by (with_reducible repeat (first | refine qN ?_ _ | refine qD ?_ | refine qA ?_ _)); exact BK409.out) hb); have n1_ := Aside0.mk (below_step (by repeat (first | (with_reducible first | exact HB.out | apply pA | apply pN | apply pD | refine pS ?_ GE409.out) | exact HB.out)) hb); clear BK409; clear HB; have BK409 := n0_; have HB := n1_; clear n0_ n1_; (try clear hb); (try clear hb2); (try clear hk); (try clear hi)) | ((with_reducible refine gate_dst (N := 8) rfl ?_); refine box_event ?hg (N := 8) ?hd (cs := #[.int .u64 0, .int .u64 0, .int .i64 0]) (t := 24) ?hr ?_; (case hd => rfl); (case hg => rfl); (case hr => first | (go_simp; done) | (go_simp; rfl)); intro gb416 hg w84 hbox hb; have n0_ := Aside0.mk (blk_below (g := gb409) (o := .cells #[.int .u64 a0_0, .int .u64 a0_1, .int .i64 a0_2] 24 (0, 0)) (by (with_reducible repeat (first | refine qN ?_ _ | refine qD ?_ | refine qA ?_ _)); exact BK409.out) hb); have n1_ := Aside0.mk (below_step (by repeat (first | (with_reducible first | exact HB.out | apply pA | apply pN | apply pD | refine pS ?_ GE409.out) | exact HB.out)) hb); have n2_ := Aside0.mk (hbox); have n3_ := Aside0.mk ((by rw [hg]; exact (below_size (by repeat (first | (with_reducible first | exact HB.out | apply pA | apply pN | apply pD | refine pS ?_ GE409.out) | exact HB.out))) : w.heap.size ≤ gb416)); have n4_ := Aside0.mk ((by rw [hg]; exact (below_size (by repeat (first | (with_reducible first | exact HB.out | apply pA | apply pN | apply pD | refine pS ?_ GE409.out) | exact HB.out))) : w.heap.size ≤ gb416)); have n5_ := Aside0.mk ((by rw [hg]; exact Nat.ne_of_lt (blk_lt (g := gb409) (o := .cells #[.int .u64 a0_0, .int .u64 a0_1, .int .i64 a0_2] 24 (0, 0)) (by (with_reducible repeat (first | refine qN ?_ _ | refine qD ?_ | refine qA ?_ _)); exact BK409.out)) : gb409 ≠ gb416)); have n6_ := Aside0.mk ((by rw [hg]; exact Nat.ne_of_gt (blk_lt (g := gb409) (o := .cells #[.int .u64 a0_0, .int .u64 a0_1, .int .i64 a0_2] 24 (0, 0)) (by (with_reducible repeat (first | refine qN ?_ _ | refine qD ?_ | refine qA ?_ _)); exact BK409.out)) : gb416 ≠ gb409)); clear BK409; clear HB; have BK409 := n0_; have HB := n1_; have BK416 := n2_; have GW416 := n3_; have GE416 := n4_; have NB409_416 := n5_; have NB416_409 := n6_; clear n0_ n1_ n2_ n3_ n4_ n5_ n6_; clear hb hbox hg; have hnb85 := NB416_409.out; have hnc85 := NB409_416.out; have hcz86_0 : w84.cell? ⟨gb416, 0, none⟩ = some (.int .u64 0) := (blk_cell BK416.out 0).trans rfl; have hcz86_1 : w84.cell? ⟨gb416, 1, none⟩ = some (.int .u64 0) := (blk_cell BK416.out 1).trans rfl; have hcz86_2 : w84.cell? ⟨gb416, 2, none⟩ = some (.int .i64 0) := (blk_cell BK416.out 2).trans rfl; have hfz86_0 := blk_frozen BK416.out 0; have hfz86_1 := blk_frozen BK416.out 1; have hfz86_2 := blk_frozen BK416.out 2; have hcz87_0 : w84.cell? ⟨gb409, 0, none⟩ = some (.int .u64 a0_0) := (blk_cell BK409.out 0).trans rfl; have hcz87_1 : w84.cell? ⟨gb409, 1, none⟩ = some (.int .u64 a0_1) := (blk_cell BK409.out 1).trans rfl; have hcz87_2 : w84.cell? ⟨gb409, 2, none⟩ = some (.int .i64 a0_2) := (blk_cell BK409.out 2).trans rfl; have hfz87_0 := blk_frozen BK409.out 0; have hfz87_1 := blk_frozen BK409.out 1; have hfz87_2 := blk_frozen BK409.out 2) | ((with_reducible refine gate_callee (f := 16) rfl ?_); refine goesL_ (some 26) rfl rfl Try.func16 (by kernel_rfl) rfl #[.agg #[.int .u64 a0_0, .int .u64 a0_1, .int .i64 a0_2], .int .i64 a1, .int .i64 a2] rfl (by (try simp only [List.map_toArray, List.map_cons, List.map_nil]); first | done | rfl | (simp only [List.length_drop, List.length_take]; rfl)) ?_; (with_reducible refine (meter_Count.calls a0_0 a0_1 a0_2 a1 a2 t417 t418 t419 _ A8.out).mono ?_); rintro e w88 ⟨rfl, hb⟩; refine ⟨_, rfl, ?_⟩; have n0_ := Aside0.mk (blk_below (g := gb409) (o := .cells #[.int .u64 a0_0, .int .u64 a0_1, .int .i64 a0_2] 24 (0, 0)) (by (with_reducible repeat (first | refine qN ?_ _ | refine qD ?_ | refine qA ?_ _)); refine blk_far ?_ NB409_416.out _; (with_reducible repeat (first | refine qN ?_ _ | refine qD ?_ | refine qA ?_ _)); refine blk_far ?_ NB409_416.out _; (with_reducible repeat (first | refine qN ?_ _ | refine qD ?_ | refine qA ?_ _)); refine blk_far ?_ NB409_416.out _; (with_reducible repeat (first | refine qN ?_ _ | refine qD ?_ | refine qA ?_ _)); exact BK409.out) hb); have n1_ := Aside0.mk (blk_below (g := gb416) (o := .cells #[.int .u64 t412, .int .u64 t413, .int .i64 t414] 24 (0, 0)) (by (with_reducible repeat (first | refine qN ?_ _ | refine qD ?_ | refine qA ?_ _)); refine blk_put (cs := #[.int .u64 t412, .int .u64 t413, .int .i64 0]) ?_ 2 _ rfl; (with_reducible repeat (first | refine qN ?_ _ | refine qD ?_ | refine qA ?_ _)); refine blk_put (cs := #[.int .u64 t412, .int .u64 0, .int .i64 0]) ?_ 1 _ rfl; (with_reducible repeat (first | refine qN ?_ _ | refine qD ?_ | refine qA ?_ _)); refine blk_put (cs := #[.int .u64 0, .int .u64 0, .int .i64 0]) ?_ 0 _ rfl; (with_reducible repeat (first | refine qN ?_ _ | refine qD ?_ | refine qA ?_ _)); exact BK416.out) hb); have n2_ := Aside0.mk (below_step (by repeat (first | (with_reducible first | exact HB.out | apply pA | apply pN | apply pD | refine pS ?_ GE409.out | refine pS ?_ GE416.out) | exact HB.out)) hb); clear BK409; clear BK416; clear HB; have BK409 := n0_; have BK416 := n1_; have HB := n2_; clear n0_ n1_ n2_; (try clear hb); (try clear hb2); (try clear hk); (try clear hi)) | ((with_reducible refine gate_callee (f := 14) rfl ?_); refine goesL_ (some 27) rfl rfl Try.func14 (by kernel_rfl) rfl #[.agg #[.int .u64 t417, .int .u64 t418, .int .i64 t419]] rfl (by (try simp only [List.map_toArray, List.map_cons, List.map_nil]); first | done | rfl | (simp only [List.length_drop, List.length_take]; rfl)) ?_; (with_reducible refine (meter_Tick.calls t417 t418 t419 t420 t421 t422 t423 _ A9.out).mono ?_); rintro e w89 ⟨rfl, hb⟩; refine ⟨_, rfl, ?_⟩; have n0_ := Aside0.mk (blk_below (g := gb409) (o := .cells #[.int .u64 a0_0, .int .u64 a0_1, .int .i64 a0_2] 24 (0, 0)) (by (with_reducible repeat (first | refine qN ?_ _ | refine qD ?_ | refine qA ?_ _)); exact BK409.out) hb); have n1_ := Aside0.mk (blk_below (g := gb416) (o := .cells #[.int .u64 t412, .int .u64 t413, .int .i64 t414] 24 (0, 0)) (by (with_reducible repeat (first | refine qN ?_ _ | refine qD ?_ | refine qA ?_ _)); exact BK416.out) hb); have n2_ := Aside0.mk (below_step (by repeat (first | (with_reducible first | exact HB.out | apply pA | apply pN | apply pD | refine pS ?_ GE409.out | refine pS ?_ GE416.out) | exact HB.out)) hb); clear BK409; clear BK416; clear HB; have BK409 := n0_; have BK416 := n1_; have HB := n2_; clear n0_ n1_ n2_; (try clear hb); (try clear hb2); (try clear hk); (try clear hi)) | ((with_reducible refine gate_dst (N := 10) rfl ?_); refine box_event ?hg (N := 10) ?hd (cs := #[.int .u64 0, .int .u64 0, .int .i64 0]) (t := 24) ?hr ?_; (case hd => rfl); (case hg => rfl); (case hr => first | (go_simp; done) | (go_simp; rfl)); intro gb424 hg w90 hbox hb; have n0_ := Aside0.mk (blk_below (g := gb409) (o := .cells #[.int .u64 a0_0, .int .u64 a0_1, .int .i64 a0_2] 24 (0, 0)) (by (with_reducible repeat (first | refine qN ?_ _ | refine qD ?_ | refine qA ?_ _)); exact BK409.out) hb); have n1_ := Aside0.mk (blk_below (g := gb416) (o := .cells #[.int .u64 t412, .int .u64 t413, .int .i64 t414] 24 (0, 0)) (by (with_reducible repeat (first | refine qN ?_ _ | refine qD ?_ | refine qA ?_ _)); exact BK416.out) hb); have n2_ := Aside0.mk (below_step (by repeat (first | (with_reducible first | exact HB.out | apply pA | apply pN | apply pD | refine pS ?_ GE409.out | refine pS ?_ GE416.out) | exact HB.out)) hb); have n3_ := Aside0.mk (hbox); have n4_ := Aside0.mk ((by rw [hg]; exact (below_size (by repeat (first | (with_reducible first | exact HB.out | apply pA | apply pN | apply pD | refine pS ?_ GE409.out | refine pS ?_ GE416.out) | exact HB.out))) : w.heap.size ≤ gb424)); have n5_ := Aside0.mk ((by rw [hg]; exact (below_size (by repeat (first | (with_reducible first | exact HB.out | apply pA | apply pN | apply pD | refine pS ?_ GE409.out | refine pS ?_ GE416.out) | exact HB.out))) : w.heap.size ≤ gb424)); have n6_ := Aside0.mk ((by rw [hg]; exact Nat.ne_of_lt (blk_lt (g := gb409) (o := .cells #[.int .u64 a0_0, .int .u64 a0_1, .int .i64 a0_2] 24 (0, 0)) (by (with_reducible repeat (first | refine qN ?_ _ | refine qD ?_ | refine qA ?_ _)); exact BK409.out)) : gb409 ≠ gb424)); have n7_ := Aside0.mk ((by rw [hg]; exact Nat.ne_of_gt (blk_lt (g := gb409) (o := .cells #[.int .u64 a0_0, .int .u64 a0_1, .int .i64 a0_2] 24 (0, 0)) (by (with_reducible repeat (first | refine qN ?_ _ | refine qD ?_ | refine qA ?_ _)); exact BK409.out)) : gb424 ≠ gb409)); have n8_ := Aside0.mk ((by rw [hg]; exact Nat.ne_of_lt (blk_lt (g := gb416) (o := .cells #[.int .u64 t412, .int .u64 t413, .int .i64 t414] 24 (0, 0)) (by (with_reducible repeat (first | refine qN ?_ _ | refine qD ?_ | refine qA ?_ _)); exact BK416.out)) : gb416 ≠ gb424)); have n9_ := Aside0.mk ((by rw [hg]; exact Nat.ne_of_gt (blk_lt (g := gb416) (o := .cells #[.int .u64 t412, .int .u64 t413, .int .i64 t414] 24 (0, 0)) (by (with_reducible repeat (first | refine qN ?_ _ | refine qD ?_ | refine qA ?_ _)); exact BK416.out)) : gb424 ≠ gb416)); clear BK409; clear BK416; clear HB; have BK409 := n0_; have BK416 := n1_; have HB := n2_; have BK424 := n3_; have GW424 := n4_; have GE424 := n5_; have NB409_424 := n6_; have NB424_409 := n7_; have NB416_424 := n8_; have NB424_416 := n9_; clear n0_ n1_ n2_ n3_ n4_ n5_ n6_ n7_ n8_ n9_; clear hb hbox hg; have hnb91 := NB424_409.out; have hnc91 := NB409_424.out; have hnb92 := NB424_416.out; have hnc92 := NB416_424.out; have hcz93_0 : w90.cell? ⟨gb424, 0, none⟩ = some (.int .u64 0) := (blk_cell BK424.out 0).trans rfl; have hcz93_1 : w90.cell? ⟨gb424, 1, none⟩ = some (.int .u64 0) := (blk_cell BK424.out 1).trans rfl; have hcz93_2 : w90.cell? ⟨gb424, 2, none⟩ = some (.int .i64 0) := (blk_cell BK424.out 2).trans rfl; have hfz93_0 := blk_frozen BK424.out 0; have hfz93_1 := blk_frozen BK424.out 1; have hfz93_2 := blk_frozen BK424.out 2))
                    have n0_ : Aside0 ((((w90.setCell ⟨gb424, 0, none⟩ (.int .u64 t420)).setCell ⟨gb424, 1, none⟩ (.int .u64 t421)).setCell ⟨gb424, 2, none⟩ (.int .i64 t422)).heap[gb409]? = some (.cells #[.int .u64 a0_0, .int .u64 a0_1, .int .i64 a0_2] 24 (0, 0))) := ⟨by (with_reducible repeat (first | refine qN ?_ _ | refine qD ?_ | refine qA ?_ _)); refine blk_far ?_ NB409_424.out _; (with_reducible repeat (first | refine qN ?_ _ | refine qD ?_ | refine qA ?_ _)); refine blk_far ?_ NB409_424.out _; (with_reducible repeat (first | refine qN ?_ _ | refine qD ?_ | refine qA ?_ _)); refine blk_far ?_ NB409_424.out _; (with_reducible repeat (first | refine qN ?_ _ | refine qD ?_ | refine qA ?_ _)); exact BK409.out⟩
                    have n1_ : Aside0 ((((w90.setCell ⟨gb424, 0, none⟩ (.int .u64 t420)).setCell ⟨gb424, 1, none⟩ (.int .u64 t421)).setCell ⟨gb424, 2, none⟩ (.int .i64 t422)).heap[gb416]? = some (.cells #[.int .u64 t412, .int .u64 t413, .int .i64 t414] 24 (0, 0))) := ⟨by (with_reducible repeat (first | refine qN ?_ _ | refine qD ?_ | refine qA ?_ _)); refine blk_far ?_ NB416_424.out _; (with_reducible repeat (first | refine qN ?_ _ | refine qD ?_ | refine qA ?_ _)); refine blk_far ?_ NB416_424.out _; (with_reducible repeat (first | refine qN ?_ _ | refine qD ?_ | refine qA ?_ _)); refine blk_far ?_ NB416_424.out _; (with_reducible repeat (first | refine qN ?_ _ | refine qD ?_ | refine qA ?_ _)); exact BK416.out⟩
                    have n2_ : Aside0 ((((w90.setCell ⟨gb424, 0, none⟩ (.int .u64 t420)).setCell ⟨gb424, 1, none⟩ (.int .u64 t421)).setCell ⟨gb424, 2, none⟩ (.int .i64 t422)).heap[gb424]? = some (.cells #[.int .u64 t420, .int .u64 t421, .int .i64 t422] 24 (0, 0))) := ⟨by (with_reducible repeat (first | refine qN ?_ _ | refine qD ?_ | refine qA ?_ _)); refine blk_put (cs := #[.int .u64 t420, .int .u64 t421, .int .i64 0]) ?_ 2 _ rfl; (with_reducible repeat (first | refine qN ?_ _ | refine qD ?_ | refine qA ?_ _)); refine blk_put (cs := #[.int .u64 t420, .int .u64 0, .int .i64 0]) ?_ 1 _ rfl; (with_reducible repeat (first | refine qN ?_ _ | refine qD ?_ | refine qA ?_ _)); refine blk_put (cs := #[.int .u64 0, .int .u64 0, .int .i64 0]) ?_ 0 _ rfl; (with_reducible repeat (first | refine qN ?_ _ | refine qD ?_ | refine qA ?_ _)); exact BK424.out⟩
                    have n3_ : Aside0 (Below w.heap.size w (((w90.setCell ⟨gb424, 0, none⟩ (.int .u64 t420)).setCell ⟨gb424, 1, none⟩ (.int .u64 t421)).setCell ⟨gb424, 2, none⟩ (.int .i64 t422))) := ⟨by repeat (first | (with_reducible first | exact HB.out | apply pA | apply pN | apply pD | refine pS ?_ GE409.out | refine pS ?_ GE416.out | refine pS ?_ GE424.out) | exact HB.out)⟩
                    (try clear BK409)
                    (try clear BK416)
                    (try clear BK424)
                    (try clear HB)
                    generalize (((w90.setCell ⟨gb424, 0, none⟩ (.int .u64 t420)).setCell ⟨gb424, 1, none⟩ (.int .u64 t421)).setCell ⟨gb424, 2, none⟩ (.int .i64 t422)) = w94 at n0_ n1_ n2_ n3_ ⊢
                    have BK409 := n0_
                    have BK416 := n1_
                    have BK424 := n2_
                    have HB := n3_
                    clear n0_ n1_ n2_ n3_
                    have n0_ := Aside0.mk (qD BK409.out)
                    have n1_ := Aside0.mk (qD BK416.out)
                    have n2_ := Aside0.mk (qD BK424.out)
                    have n3_ := Aside0.mk (pD HB.out)
                    clear BK409
                    clear BK416
                    clear BK424
                    clear HB
                    have BK409 := n0_
                    have BK416 := n1_
                    have BK424 := n2_
                    have HB := n3_
                    clear n0_ n1_ n2_ n3_
                    refine start_ (n := 55) (S := fun w' => w'.cell? ⟨gb416, 0, none⟩ = some (.int .u64 t412) ∧ w'.cell? ⟨gb416, 1, none⟩ = some (.int .u64 t413) ∧ w'.cell? ⟨gb416, 2, none⟩ = some (.int .i64 t414) ∧ w'.cell? ⟨gb424, 0, none⟩ = some (.int .u64 t420) ∧ w'.cell? ⟨gb424, 1, none⟩ = some (.int .u64 t421) ∧ w'.cell? ⟨gb424, 2, none⟩ = some (.int .i64 t422) ∧ w'.cell? ⟨gb409, 0, none⟩ = some (.int .u64 a0_0) ∧ w'.cell? ⟨gb409, 1, none⟩ = some (.int .u64 a0_1) ∧ w'.cell? ⟨gb409, 2, none⟩ = some (.int .i64 a0_2)) (ds := []) #[oO, oO, oO, oO, oO, oO, oO, oO, oO, oO, oO, oO, oO, oO, oO, oO, oO, oO, oO, oO, oO, oO, oO, oO, oO, oO, oO, oO, oO, oO, oO, oO, oO, oO, oO, oO, oO, oO, oO, oO, oO, oO, oO, oO, oO, oO, oO, oO, oO, oO, oO, oO, oO, oO, oO] (by kernel_rfl) rfl rfl ⟨(blk_cell BK416.out 0).trans rfl, (blk_cell BK416.out 1).trans rfl, (blk_cell BK416.out 2).trans rfl, (blk_cell BK424.out 0).trans rfl, (blk_cell BK424.out 1).trans rfl, (blk_cell BK424.out 2).trans rfl, (blk_cell BK409.out 0).trans rfl, (blk_cell BK409.out 1).trans rfl, (blk_cell BK409.out 2).trans rfl⟩ (fun hHeld => ?_); refine with_tabW portreevelaw17_MeterTime.tab6 portreevelaw17_MeterTime.bits6 (fun HT_ HW_ => ?_)
                    generalize w94.drew = w95 at BK409 BK416 BK424 HB hHeld ⊢
                    refine pure_ (i := 0) (N := some 30) (v := ?_) (a' := ?_) #[oI, oO, oO, oO, oO, oO, oO, oO, oO, oO, oO, oO, oO, oO, oO, oO, oO, oO, oO, oO, oO, oO, oO, oO, oO, oO, oO, oO, oO, oO, oO, oO, oO, oO, oO, oO, oO, oO, oO, oO, oO, oO, oO, oO, oO, oO, oO, oO, oO, oO, oO, oO, oO, oO, oO] rfl rfl (any_of HT_.out (by kernel_rfl)) (fun _ _ _ h => h) (Or.inl ⟨by rfl, ?_⟩) ?_ ?_
                    rotate_left
                    · intro w'
                      go_simp
                      with_reducible rfl
                    rotate_left
                    · simp only [Act.put, List.setIfInBounds_toArray, List.set_cons_zero, List.set_cons_succ, i64_w, i32_w]
                      rfl
                    refine pure_ (i := 1) (N := some 31) (v := ?_) (a' := ?_) #[oI, oI, oO, oO, oO, oO, oO, oO, oO, oO, oO, oO, oO, oO, oO, oO, oO, oO, oO, oO, oO, oO, oO, oO, oO, oO, oO, oO, oO, oO, oO, oO, oO, oO, oO, oO, oO, oO, oO, oO, oO, oO, oO, oO, oO, oO, oO, oO, oO, oO, oO, oO, oO, oO, oO] rfl rfl (any_of HT_.out (by kernel_rfl)) (fun _ _ _ h => h) (Or.inl ⟨by rfl, ?_⟩) ?_ ?_
                    rotate_left
                    · intro w'
                      go_simp
                      with_reducible rfl
                    rotate_left
                    · simp only [Act.put, List.setIfInBounds_toArray, List.set_cons_zero, List.set_cons_succ, i64_w, i32_w]
                      rfl
                    refine pure_ (i := 2) (N := some 32) (v := ?_) (a' := ?_) #[oI, oI, oI, oO, oO, oO, oO, oO, oO, oO, oO, oO, oO, oO, oO, oO, oO, oO, oO, oO, oO, oO, oO, oO, oO, oO, oO, oO, oO, oO, oO, oO, oO, oO, oO, oO, oO, oO, oO, oO, oO, oO, oO, oO, oO, oO, oO, oO, oO, oO, oO, oO, oO, oO, oO] rfl rfl (any_of HT_.out (by kernel_rfl)) (fun _ _ _ h => h) (Or.inl ⟨by rfl, ?_⟩) ?_ ?_
                    rotate_left
                    · intro w'
                      go_simp
                      with_reducible rfl
                    rotate_left
                    · simp only [Act.put, List.setIfInBounds_toArray, List.set_cons_zero, List.set_cons_succ, i64_w, i32_w]
                      rfl
                    refine pure_ (i := 3) (N := some 33) (v := ?_) (a' := ?_) #[oI, oI, oI, oI, oO, oO, oO, oO, oO, oO, oO, oO, oO, oO, oO, oO, oO, oO, oO, oO, oO, oO, oO, oO, oO, oO, oO, oO, oO, oO, oO, oO, oO, oO, oO, oO, oO, oO, oO, oO, oO, oO, oO, oO, oO, oO, oO, oO, oO, oO, oO, oO, oO, oO, oO] rfl rfl (any_of HT_.out (by kernel_rfl)) (fun _ _ _ h => h) (Or.inl ⟨by rfl, ?_⟩) ?_ ?_
                    rotate_left
                    · intro w'
                      go_simp
                      with_reducible rfl
                    rotate_left
                    · simp only [Act.put, List.setIfInBounds_toArray, List.set_cons_zero, List.set_cons_succ, i64_w, i32_w]
                      rfl
                    refine pure_ (i := 4) (N := some 34) (v := ?_) (a' := ?_) #[oI, oI, oI, oI, oI, oO, oO, oO, oO, oO, oO, oO, oO, oO, oO, oO, oO, oO, oO, oO, oO, oO, oO, oO, oO, oO, oO, oO, oO, oO, oO, oO, oO, oO, oO, oO, oO, oO, oO, oO, oO, oO, oO, oO, oO, oO, oO, oO, oO, oO, oO, oO, oO, oO, oO] rfl rfl (any_of HT_.out (by kernel_rfl)) (fun _ _ _ h => h) (Or.inl ⟨by rfl, ?_⟩) ?_ ?_
                    rotate_left
                    · intro w'
                      go_simp
                      with_reducible rfl
                    rotate_left
                    · simp only [Act.put, List.setIfInBounds_toArray, List.set_cons_zero, List.set_cons_succ, i64_w, i32_w]
                      rfl
                    refine pure_ (i := 5) (N := some 35) (v := ?_) (a' := ?_) #[oI, oI, oI, oI, oI, oI, oO, oO, oO, oO, oO, oO, oO, oO, oO, oO, oO, oO, oO, oO, oO, oO, oO, oO, oO, oO, oO, oO, oO, oO, oO, oO, oO, oO, oO, oO, oO, oO, oO, oO, oO, oO, oO, oO, oO, oO, oO, oO, oO, oO, oO, oO, oO, oO, oO] rfl rfl (any_of HT_.out (by kernel_rfl)) (fun _ _ _ h => h) (Or.inl ⟨by rfl, ?_⟩) ?_ ?_
                    rotate_left
                    · intro w'
                      go_simp
                      with_reducible rfl
                    rotate_left
                    · simp only [Act.put, List.setIfInBounds_toArray, List.set_cons_zero, List.set_cons_succ, i64_w, i32_w]
                      rfl
                    refine pure_ (i := 6) (N := some 36) (v := ?_) (a' := ?_) #[oI, oI, oI, oI, oI, oI, oI, oO, oO, oO, oO, oO, oO, oO, oO, oO, oO, oO, oO, oO, oO, oO, oO, oO, oO, oO, oO, oO, oO, oO, oO, oO, oO, oO, oO, oO, oO, oO, oO, oO, oO, oO, oO, oO, oO, oO, oO, oO, oO, oO, oO, oO, oO, oO, oO] rfl rfl (any_of HT_.out (by kernel_rfl)) (fun _ _ _ h => h) (Or.inl ⟨by rfl, ?_⟩) ?_ ?_
                    rotate_left
                    · intro w'
                      go_simp
                      with_reducible rfl
                    rotate_left
                    · simp only [Act.put, List.setIfInBounds_toArray, List.set_cons_zero, List.set_cons_succ, i64_w, i32_w]
                      rfl
                    refine pure_ (i := 7) (N := some 37) (v := ?_) (a' := ?_) #[oI, oI, oI, oI, oI, oI, oI, oI, oO, oO, oO, oO, oO, oO, oO, oO, oO, oO, oO, oO, oO, oO, oO, oO, oO, oO, oO, oO, oO, oO, oO, oO, oO, oO, oO, oO, oO, oO, oO, oO, oO, oO, oO, oO, oO, oO, oO, oO, oO, oO, oO, oO, oO, oO, oO] rfl rfl (any_of HT_.out (by kernel_rfl)) (fun _ _ _ h => h) (Or.inl ⟨by rfl, ?_⟩) ?_ ?_
                    rotate_left
                    · intro w'
                      go_simp
                      with_reducible rfl
                    rotate_left
                    · simp only [Act.put, List.setIfInBounds_toArray, List.set_cons_zero, List.set_cons_succ, i64_w, i32_w]
                      rfl
                    refine pure_ (i := 9) (N := some 39) (v := ?_) (a' := ?_) #[oI, oI, oI, oI, oI, oI, oI, oI, oO, oI, oO, oO, oO, oO, oO, oO, oO, oO, oO, oO, oO, oO, oO, oO, oO, oO, oO, oO, oO, oO, oO, oO, oO, oO, oO, oO, oO, oO, oO, oO, oO, oO, oO, oO, oO, oO, oO, oO, oO, oO, oO, oO, oO, oO, oO] rfl rfl (any_of HT_.out (by kernel_rfl)) (fun _ _ _ h => h) (Or.inl ⟨by rfl, ?_⟩) ?_ ?_
                    rotate_left
                    · intro w'
                      go_simp
                      with_reducible rfl
                    rotate_left
                    · simp only [Act.put, List.setIfInBounds_toArray, List.set_cons_zero, List.set_cons_succ, i64_w, i32_w]
                      rfl
                    refine take_ (i := 8) (N := some 38) (v := ?_) (a' := ?_) #[oI, oI, oI, oI, oI, oI, oI, oI, oI, oI, oO, oO, oO, oO, oO, oO, oO, oO, oO, oO, oO, oO, oO, oO, oO, oO, oO, oO, oO, oO, oO, oO, oO, oO, oO, oO, oO, oO, oO, oO, oO, oO, oO, oO, oO, oO, oO, oO, oO, oO, oO, oO, oO, oO, oO] rfl rfl (take_ofW HT_.out HW_.out (by kernel_rfl)) (fun _ _ _ h => h) (Or.inl ⟨by rfl, ?_⟩) hHeld ?_ ?_
                    rotate_left
                    · rintro w' ⟨s0, s1, s2, s3, s4, s5, s6, s7, s8⟩
                      go_simp
                      with_reducible rfl
                    rotate_left
                    · simp only [Act.put, List.setIfInBounds_toArray, List.set_cons_zero, List.set_cons_succ, i64_w, i32_w]
                      rfl
                    refine take_ (i := 10) (N := some 40) (v := ?_) (a' := ?_) #[oI, oI, oI, oI, oI, oI, oI, oI, oI, oI, oI, oO, oO, oO, oO, oO, oO, oO, oO, oO, oO, oO, oO, oO, oO, oO, oO, oO, oO, oO, oO, oO, oO, oO, oO, oO, oO, oO, oO, oO, oO, oO, oO, oO, oO, oO, oO, oO, oO, oO, oO, oO, oO, oO, oO] rfl rfl (take_ofW HT_.out HW_.out (by kernel_rfl)) (fun _ _ _ h => h) (Or.inl ⟨by rfl, ?_⟩) hHeld ?_ ?_
                    rotate_left
                    · rintro w' ⟨s0, s1, s2, s3, s4, s5, s6, s7, s8⟩
                      go_simp
                      with_reducible rfl
                    rotate_left
                    · simp only [Act.put, List.setIfInBounds_toArray, List.set_cons_zero, List.set_cons_succ, i64_w, i32_w]
                      rfl
                    refine pure_ (i := 11) (N := some 41) (v := ?_) (a' := ?_) #[oI, oI, oI, oI, oI, oI, oI, oI, oI, oI, oI, oI, oO, oO, oO, oO, oO, oO, oO, oO, oO, oO, oO, oO, oO, oO, oO, oO, oO, oO, oO, oO, oO, oO, oO, oO, oO, oO, oO, oO, oO, oO, oO, oO, oO, oO, oO, oO, oO, oO, oO, oO, oO, oO, oO] rfl rfl (any_of HT_.out (by kernel_rfl)) (fun _ _ _ h => h) (Or.inl ⟨by rfl, ?_⟩) ?_ ?_
                    rotate_left
                    · intro w'
                      go_simp
                      with_reducible rfl
                    rotate_left
                    · simp only [Act.put, List.setIfInBounds_toArray, List.set_cons_zero, List.set_cons_succ, i64_w, i32_w]
                      rfl
                    refine pure_ (i := 12) (N := some 42) (v := ?_) (a' := ?_) #[oI, oI, oI, oI, oI, oI, oI, oI, oI, oI, oI, oI, oI, oO, oO, oO, oO, oO, oO, oO, oO, oO, oO, oO, oO, oO, oO, oO, oO, oO, oO, oO, oO, oO, oO, oO, oO, oO, oO, oO, oO, oO, oO, oO, oO, oO, oO, oO, oO, oO, oO, oO, oO, oO, oO] rfl rfl (any_of HT_.out (by kernel_rfl)) (fun _ _ _ h => h) (Or.inl ⟨by rfl, ?_⟩) ?_ ?_
                    rotate_left
                    · intro w'
                      go_simp
                      with_reducible rfl
                    rotate_left
                    · simp only [Act.put, List.setIfInBounds_toArray, List.set_cons_zero, List.set_cons_succ, i64_w, i32_w]
                      rfl
                    refine pure_ (i := 13) (N := some 43) (v := ?_) (a' := ?_) #[oI, oI, oI, oI, oI, oI, oI, oI, oI, oI, oI, oI, oI, oI, oO, oO, oO, oO, oO, oO, oO, oO, oO, oO, oO, oO, oO, oO, oO, oO, oO, oO, oO, oO, oO, oO, oO, oO, oO, oO, oO, oO, oO, oO, oO, oO, oO, oO, oO, oO, oO, oO, oO, oO, oO] rfl rfl (any_of HT_.out (by kernel_rfl)) (fun _ _ _ h => h) (Or.inl ⟨by rfl, ?_⟩) ?_ ?_
                    rotate_left
                    · intro w'
                      go_simp
                      with_reducible rfl
                    rotate_left
                    · simp only [Act.put, List.setIfInBounds_toArray, List.set_cons_zero, List.set_cons_succ, i64_w, i32_w]
                      rfl
                    refine pure_ (i := 15) (N := some 45) (v := ?_) (a' := ?_) #[oI, oI, oI, oI, oI, oI, oI, oI, oI, oI, oI, oI, oI, oI, oO, oI, oO, oO, oO, oO, oO, oO, oO, oO, oO, oO, oO, oO, oO, oO, oO, oO, oO, oO, oO, oO, oO, oO, oO, oO, oO, oO, oO, oO, oO, oO, oO, oO, oO, oO, oO, oO, oO, oO, oO] rfl rfl (any_of HT_.out (by kernel_rfl)) (fun _ _ _ h => h) (Or.inl ⟨by rfl, ?_⟩) ?_ ?_
                    rotate_left
                    · intro w'
                      go_simp
                      with_reducible rfl
                    rotate_left
                    · simp only [Act.put, List.setIfInBounds_toArray, List.set_cons_zero, List.set_cons_succ, i64_w, i32_w]
                      rfl
                    refine pure_ (i := 16) (N := some 46) (v := ?_) (a' := ?_) #[oI, oI, oI, oI, oI, oI, oI, oI, oI, oI, oI, oI, oI, oI, oO, oI, oI, oO, oO, oO, oO, oO, oO, oO, oO, oO, oO, oO, oO, oO, oO, oO, oO, oO, oO, oO, oO, oO, oO, oO, oO, oO, oO, oO, oO, oO, oO, oO, oO, oO, oO, oO, oO, oO, oO] rfl rfl (any_of HT_.out (by kernel_rfl)) (fun _ _ _ h => h) (Or.inl ⟨by rfl, ?_⟩) ?_ ?_
                    rotate_left
                    · intro w'
                      go_simp
                      with_reducible rfl
                    rotate_left
                    · simp only [Act.put, List.setIfInBounds_toArray, List.set_cons_zero, List.set_cons_succ, i64_w, i32_w]
                      rfl
                    refine take_ (i := 14) (N := some 44) (v := ?_) (a' := ?_) #[oI, oI, oI, oI, oI, oI, oI, oI, oI, oI, oI, oI, oI, oI, oI, oI, oI, oO, oO, oO, oO, oO, oO, oO, oO, oO, oO, oO, oO, oO, oO, oO, oO, oO, oO, oO, oO, oO, oO, oO, oO, oO, oO, oO, oO, oO, oO, oO, oO, oO, oO, oO, oO, oO, oO] rfl rfl (take_ofW HT_.out HW_.out (by kernel_rfl)) (fun _ _ _ h => h) (Or.inl ⟨by rfl, ?_⟩) hHeld ?_ ?_
                    rotate_left
                    · rintro w' ⟨s0, s1, s2, s3, s4, s5, s6, s7, s8⟩
                      go_simp
                      with_reducible rfl
                    rotate_left
                    · simp only [Act.put, List.setIfInBounds_toArray, List.set_cons_zero, List.set_cons_succ, i64_w, i32_w]
                      rfl
                    refine take_ (i := 18) (N := some 48) (v := ?_) (a' := ?_) #[oI, oI, oI, oI, oI, oI, oI, oI, oI, oI, oI, oI, oI, oI, oI, oI, oI, oO, oI, oO, oO, oO, oO, oO, oO, oO, oO, oO, oO, oO, oO, oO, oO, oO, oO, oO, oO, oO, oO, oO, oO, oO, oO, oO, oO, oO, oO, oO, oO, oO, oO, oO, oO, oO, oO] rfl rfl (take_ofW HT_.out HW_.out (by kernel_rfl)) (fun _ _ _ h => h) (Or.inl ⟨by rfl, ?_⟩) hHeld ?_ ?_
                    rotate_left
                    · rintro w' ⟨s0, s1, s2, s3, s4, s5, s6, s7, s8⟩
                      go_simp
                      with_reducible rfl
                    rotate_left
                    · simp only [Act.put, List.setIfInBounds_toArray, List.set_cons_zero, List.set_cons_succ, i64_w, i32_w]
                      rfl
                    refine one_ (i := 17) (N := some 47) #[oI, oI, oI, oI, oI, oI, oI, oI, oI, oI, oI, oI, oI, oI, oI, oI, oI, oI, oI, oO, oO, oO, oO, oO, oO, oO, oO, oO, oO, oO, oO, oO, oO, oO, oO, oO, oO, oO, oO, oO, oO, oO, oO, oO, oO, oO, oO, oO, oO, oO, oO, oO, oO, oO, oO] rfl rfl (one_of HT_.out (by kernel_rfl)) (by decide) (fun K hK => ?_)
                    refine goes_ Try.func16 (by kernel_rfl) rfl #[.agg #[.int .u64 t412, .int .u64 t413, .int .i64 t414], .int .i64 a1, .int .i64 a2] (by rfl) rfl rfl (by (try simp only [List.map_toArray, List.map_cons, List.map_nil]); first | done | rfl | (simp only [List.length_drop, List.length_take]; rfl)) ?_
                    with_reducible refine (meter_Count.calls t412 t413 t414 a1 a2 t425 t426 t427 _ A13.out).mono ?_
                    rintro e w96 ⟨rfl, hb⟩
                    refine ⟨_, rfl, ?_⟩
                    have n0_ := Aside0.mk (blk_below (g := gb409) (o := .cells #[.int .u64 a0_0, .int .u64 a0_1, .int .i64 a0_2] 24 (0, 0)) (by (with_reducible repeat (first | refine qN ?_ _ | refine qD ?_ | refine qA ?_ _)); exact BK409.out) hb)
                    have n1_ := Aside0.mk (blk_below (g := gb416) (o := .cells #[.int .u64 t412, .int .u64 t413, .int .i64 t414] 24 (0, 0)) (by (with_reducible repeat (first | refine qN ?_ _ | refine qD ?_ | refine qA ?_ _)); exact BK416.out) hb)
                    have n2_ := Aside0.mk (blk_below (g := gb424) (o := .cells #[.int .u64 t420, .int .u64 t421, .int .i64 t422] 24 (0, 0)) (by (with_reducible repeat (first | refine qN ?_ _ | refine qD ?_ | refine qA ?_ _)); exact BK424.out) hb)
                    have n3_ := Aside0.mk (below_step (by repeat (first | (with_reducible first | exact HB.out | apply pA | apply pN | apply pD | refine pS ?_ GE409.out | refine pS ?_ GE416.out | refine pS ?_ GE424.out) | exact HB.out)) hb)
                    clear BK409
                    clear BK416
                    clear BK424
                    clear HB
                    have BK409 := n0_
                    have BK416 := n1_
                    have BK424 := n2_
                    have HB := n3_
                    clear n0_ n1_ n2_ n3_
                    (try clear hb)
                    (try clear hb2)
                    (try clear hk)
                    (try clear hi)
                    refine hK.out _ _ ⟨(blk_cell BK416.out 0).trans rfl, (blk_cell BK416.out 1).trans rfl, (blk_cell BK416.out 2).trans rfl, (blk_cell BK424.out 0).trans rfl, (blk_cell BK424.out 1).trans rfl, (blk_cell BK424.out 2).trans rfl, (blk_cell BK409.out 0).trans rfl, (blk_cell BK409.out 1).trans rfl, (blk_cell BK409.out 2).trans rfl⟩ (fun hHeld => ?_)
                    clear hK K
                    refine norm_ (a' := ?_) ?_ ?_
                    rotate_left
                    · show Act.put _ (some 47) _ = _
                      simp only [Act.put, List.setIfInBounds_toArray, List.set_cons_zero, List.set_cons_succ, i64_w, i32_w]
                      rfl
                    refine pure_ (i := 19) (N := some 49) (v := ?_) (a' := ?_) #[oI, oI, oI, oI, oI, oI, oI, oI, oI, oI, oI, oI, oI, oI, oI, oI, oI, oI, oI, oI, oO, oO, oO, oO, oO, oO, oO, oO, oO, oO, oO, oO, oO, oO, oO, oO, oO, oO, oO, oO, oO, oO, oO, oO, oO, oO, oO, oO, oO, oO, oO, oO, oO, oO, oO] rfl rfl (any_of HT_.out (by kernel_rfl)) (fun _ _ _ h => h) (Or.inl ⟨by rfl, ?_⟩) ?_ ?_
                    rotate_left
                    · intro w'
                      go_simp
                      with_reducible rfl
                    rotate_left
                    · simp only [Act.put, List.setIfInBounds_toArray, List.set_cons_zero, List.set_cons_succ, i64_w, i32_w]
                      rfl
                    refine pure_ (i := 20) (N := some 50) (v := ?_) (a' := ?_) #[oI, oI, oI, oI, oI, oI, oI, oI, oI, oI, oI, oI, oI, oI, oI, oI, oI, oI, oI, oI, oI, oO, oO, oO, oO, oO, oO, oO, oO, oO, oO, oO, oO, oO, oO, oO, oO, oO, oO, oO, oO, oO, oO, oO, oO, oO, oO, oO, oO, oO, oO, oO, oO, oO, oO] rfl rfl (any_of HT_.out (by kernel_rfl)) (fun _ _ _ h => h) (Or.inl ⟨by rfl, ?_⟩) ?_ ?_
                    rotate_left
                    · intro w'
                      go_simp
                      with_reducible rfl
                    rotate_left
                    · simp only [Act.put, List.setIfInBounds_toArray, List.set_cons_zero, List.set_cons_succ, i64_w, i32_w]
                      rfl
                    refine pure_ (i := 21) (N := some 51) (v := ?_) (a' := ?_) #[oI, oI, oI, oI, oI, oI, oI, oI, oI, oI, oI, oI, oI, oI, oI, oI, oI, oI, oI, oI, oI, oI, oO, oO, oO, oO, oO, oO, oO, oO, oO, oO, oO, oO, oO, oO, oO, oO, oO, oO, oO, oO, oO, oO, oO, oO, oO, oO, oO, oO, oO, oO, oO, oO, oO] rfl rfl (any_of HT_.out (by kernel_rfl)) (fun _ _ _ h => h) (Or.inl ⟨by rfl, ?_⟩) ?_ ?_
                    rotate_left
                    · intro w'
                      go_simp
                      with_reducible rfl
                    rotate_left
                    · simp only [Act.put, List.setIfInBounds_toArray, List.set_cons_zero, List.set_cons_succ, i64_w, i32_w]
                      rfl
                    refine pure_ (i := 22) (N := some 52) (v := ?_) (a' := ?_) #[oI, oI, oI, oI, oI, oI, oI, oI, oI, oI, oI, oI, oI, oI, oI, oI, oI, oI, oI, oI, oI, oI, oI, oO, oO, oO, oO, oO, oO, oO, oO, oO, oO, oO, oO, oO, oO, oO, oO, oO, oO, oO, oO, oO, oO, oO, oO, oO, oO, oO, oO, oO, oO, oO, oO] rfl rfl (any_of HT_.out (by kernel_rfl)) (fun _ _ _ h => h) (Or.inl ⟨by rfl, ?_⟩) ?_ ?_
                    rotate_left
                    · intro w'
                      go_simp
                      with_reducible rfl
                    rotate_left
                    · simp only [Act.put, List.setIfInBounds_toArray, List.set_cons_zero, List.set_cons_succ, i64_w, i32_w]
                      rfl
                    refine pure_ (i := 24) (N := some 54) (v := ?_) (a' := ?_) #[oI, oI, oI, oI, oI, oI, oI, oI, oI, oI, oI, oI, oI, oI, oI, oI, oI, oI, oI, oI, oI, oI, oI, oO, oI, oO, oO, oO, oO, oO, oO, oO, oO, oO, oO, oO, oO, oO, oO, oO, oO, oO, oO, oO, oO, oO, oO, oO, oO, oO, oO, oO, oO, oO, oO] rfl rfl (any_of HT_.out (by kernel_rfl)) (fun _ _ _ h => h) (Or.inl ⟨by rfl, ?_⟩) ?_ ?_
                    rotate_left
                    · intro w'
                      go_simp
                      with_reducible rfl
                    rotate_left
                    · simp only [Act.put, List.setIfInBounds_toArray, List.set_cons_zero, List.set_cons_succ, i64_w, i32_w]
                      rfl
                    refine take_ (i := 23) (N := some 53) (v := ?_) (a' := ?_) #[oI, oI, oI, oI, oI, oI, oI, oI, oI, oI, oI, oI, oI, oI, oI, oI, oI, oI, oI, oI, oI, oI, oI, oI, oI, oO, oO, oO, oO, oO, oO, oO, oO, oO, oO, oO, oO, oO, oO, oO, oO, oO, oO, oO, oO, oO, oO, oO, oO, oO, oO, oO, oO, oO, oO] rfl rfl (take_ofW HT_.out HW_.out (by kernel_rfl)) (fun _ _ _ h => h) (Or.inl ⟨by rfl, ?_⟩) hHeld ?_ ?_
                    rotate_left
                    · rintro w' ⟨s0, s1, s2, s3, s4, s5, s6, s7, s8⟩
                      go_simp
                      with_reducible rfl
                    rotate_left
                    · simp only [Act.put, List.setIfInBounds_toArray, List.set_cons_zero, List.set_cons_succ, i64_w, i32_w]
                      rfl
                    refine take_ (i := 25) (N := some 55) (v := ?_) (a' := ?_) #[oI, oI, oI, oI, oI, oI, oI, oI, oI, oI, oI, oI, oI, oI, oI, oI, oI, oI, oI, oI, oI, oI, oI, oI, oI, oI, oO, oO, oO, oO, oO, oO, oO, oO, oO, oO, oO, oO, oO, oO, oO, oO, oO, oO, oO, oO, oO, oO, oO, oO, oO, oO, oO, oO, oO] rfl rfl (take_ofW HT_.out HW_.out (by kernel_rfl)) (fun _ _ _ h => h) (Or.inl ⟨by rfl, ?_⟩) hHeld ?_ ?_
                    rotate_left
                    · rintro w' ⟨s0, s1, s2, s3, s4, s5, s6, s7, s8⟩
                      go_simp
                      with_reducible rfl
                    rotate_left
                    · simp only [Act.put, List.setIfInBounds_toArray, List.set_cons_zero, List.set_cons_succ, i64_w, i32_w]
                      rfl
                    refine pure_ (i := 26) (N := some 56) (v := ?_) (a' := ?_) #[oI, oI, oI, oI, oI, oI, oI, oI, oI, oI, oI, oI, oI, oI, oI, oI, oI, oI, oI, oI, oI, oI, oI, oI, oI, oI, oI, oO, oO, oO, oO, oO, oO, oO, oO, oO, oO, oO, oO, oO, oO, oO, oO, oO, oO, oO, oO, oO, oO, oO, oO, oO, oO, oO, oO] rfl rfl (any_of HT_.out (by kernel_rfl)) (fun _ _ _ h => h) (Or.inl ⟨by rfl, ?_⟩) ?_ ?_
                    rotate_left
                    · intro w'
                      go_simp
                      with_reducible rfl
                    rotate_left
                    · simp only [Act.put, List.setIfInBounds_toArray, List.set_cons_zero, List.set_cons_succ, i64_w, i32_w]
                      rfl
                    refine pure_ (i := 27) (N := some 57) (v := ?_) (a' := ?_) #[oI, oI, oI, oI, oI, oI, oI, oI, oI, oI, oI, oI, oI, oI, oI, oI, oI, oI, oI, oI, oI, oI, oI, oI, oI, oI, oI, oI, oO, oO, oO, oO, oO, oO, oO, oO, oO, oO, oO, oO, oO, oO, oO, oO, oO, oO, oO, oO, oO, oO, oO, oO, oO, oO, oO] rfl rfl (any_of HT_.out (by kernel_rfl)) (fun _ _ _ h => h) (Or.inl ⟨by rfl, ?_⟩) ?_ ?_
                    rotate_left
                    · intro w'
                      go_simp
                      with_reducible rfl
                    rotate_left
                    · simp only [Act.put, List.setIfInBounds_toArray, List.set_cons_zero, List.set_cons_succ, i64_w, i32_w]
                      rfl
                    refine pure_ (i := 28) (N := some 58) (v := ?_) (a' := ?_) #[oI, oI, oI, oI, oI, oI, oI, oI, oI, oI, oI, oI, oI, oI, oI, oI, oI, oI, oI, oI, oI, oI, oI, oI, oI, oI, oI, oI, oI, oO, oO, oO, oO, oO, oO, oO, oO, oO, oO, oO, oO, oO, oO, oO, oO, oO, oO, oO, oO, oO, oO, oO, oO, oO, oO] rfl rfl (any_of HT_.out (by kernel_rfl)) (fun _ _ _ h => h) (Or.inl ⟨by rfl, ?_⟩) ?_ ?_
                    rotate_left
                    · intro w'
                      go_simp
                      with_reducible rfl
                    rotate_left
                    · simp only [Act.put, List.setIfInBounds_toArray, List.set_cons_zero, List.set_cons_succ, i64_w, i32_w]
                      rfl
                    refine pure_ (i := 29) (N := some 59) (v := ?_) (a' := ?_) #[oI, oI, oI, oI, oI, oI, oI, oI, oI, oI, oI, oI, oI, oI, oI, oI, oI, oI, oI, oI, oI, oI, oI, oI, oI, oI, oI, oI, oI, oI, oO, oO, oO, oO, oO, oO, oO, oO, oO, oO, oO, oO, oO, oO, oO, oO, oO, oO, oO, oO, oO, oO, oO, oO, oO] rfl rfl (any_of HT_.out (by kernel_rfl)) (fun _ _ _ h => h) (Or.inl ⟨by rfl, ?_⟩) ?_ ?_
                    rotate_left
                    · intro w'
                      go_simp
                      with_reducible rfl
                    rotate_left
                    · simp only [Act.put, List.setIfInBounds_toArray, List.set_cons_zero, List.set_cons_succ, i64_w, i32_w]
                      rfl
                    refine pure_ (i := 31) (N := some 61) (v := ?_) (a' := ?_) #[oI, oI, oI, oI, oI, oI, oI, oI, oI, oI, oI, oI, oI, oI, oI, oI, oI, oI, oI, oI, oI, oI, oI, oI, oI, oI, oI, oI, oI, oI, oO, oI, oO, oO, oO, oO, oO, oO, oO, oO, oO, oO, oO, oO, oO, oO, oO, oO, oO, oO, oO, oO, oO, oO, oO] rfl rfl (any_of HT_.out (by kernel_rfl)) (fun _ _ _ h => h) (Or.inl ⟨by rfl, ?_⟩) ?_ ?_
                    rotate_left
                    · intro w'
                      go_simp
                      with_reducible rfl
                    rotate_left
                    · simp only [Act.put, List.setIfInBounds_toArray, List.set_cons_zero, List.set_cons_succ, i64_w, i32_w]
                      rfl
                    refine take_ (i := 30) (N := some 60) (v := ?_) (a' := ?_) #[oI, oI, oI, oI, oI, oI, oI, oI, oI, oI, oI, oI, oI, oI, oI, oI, oI, oI, oI, oI, oI, oI, oI, oI, oI, oI, oI, oI, oI, oI, oI, oI, oO, oO, oO, oO, oO, oO, oO, oO, oO, oO, oO, oO, oO, oO, oO, oO, oO, oO, oO, oO, oO, oO, oO] rfl rfl (take_ofW HT_.out HW_.out (by kernel_rfl)) (fun _ _ _ h => h) (Or.inl ⟨by rfl, ?_⟩) hHeld ?_ ?_
                    rotate_left
                    · rintro w' ⟨s0, s1, s2, s3, s4, s5, s6, s7, s8⟩
                      go_simp
                      with_reducible rfl
                    rotate_left
                    · simp only [Act.put, List.setIfInBounds_toArray, List.set_cons_zero, List.set_cons_succ, i64_w, i32_w]
                      rfl
                    refine take_ (i := 32) (N := some 62) (v := ?_) (a' := ?_) #[oI, oI, oI, oI, oI, oI, oI, oI, oI, oI, oI, oI, oI, oI, oI, oI, oI, oI, oI, oI, oI, oI, oI, oI, oI, oI, oI, oI, oI, oI, oI, oI, oI, oO, oO, oO, oO, oO, oO, oO, oO, oO, oO, oO, oO, oO, oO, oO, oO, oO, oO, oO, oO, oO, oO] rfl rfl (take_ofW HT_.out HW_.out (by kernel_rfl)) (fun _ _ _ h => h) (Or.inl ⟨by rfl, ?_⟩) hHeld ?_ ?_
                    rotate_left
                    · rintro w' ⟨s0, s1, s2, s3, s4, s5, s6, s7, s8⟩
                      go_simp
                      with_reducible rfl
                    rotate_left
                    · simp only [Act.put, List.setIfInBounds_toArray, List.set_cons_zero, List.set_cons_succ, i64_w, i32_w]
                      rfl
                    refine pure_ (i := 33) (N := some 63) (v := ?_) (a' := ?_) #[oI, oI, oI, oI, oI, oI, oI, oI, oI, oI, oI, oI, oI, oI, oI, oI, oI, oI, oI, oI, oI, oI, oI, oI, oI, oI, oI, oI, oI, oI, oI, oI, oI, oI, oO, oO, oO, oO, oO, oO, oO, oO, oO, oO, oO, oO, oO, oO, oO, oO, oO, oO, oO, oO, oO] rfl rfl (any_of HT_.out (by kernel_rfl)) (fun _ _ _ h => h) (Or.inl ⟨by rfl, ?_⟩) ?_ ?_
                    rotate_left
                    · intro w'
                      go_simp
                      with_reducible rfl
                    rotate_left
                    · simp only [Act.put, List.setIfInBounds_toArray, List.set_cons_zero, List.set_cons_succ, i64_w, i32_w]
                      rfl
                    refine pure_ (i := 34) (N := some 64) (v := ?_) (a' := ?_) #[oI, oI, oI, oI, oI, oI, oI, oI, oI, oI, oI, oI, oI, oI, oI, oI, oI, oI, oI, oI, oI, oI, oI, oI, oI, oI, oI, oI, oI, oI, oI, oI, oI, oI, oI, oO, oO, oO, oO, oO, oO, oO, oO, oO, oO, oO, oO, oO, oO, oO, oO, oO, oO, oO, oO] rfl rfl (any_of HT_.out (by kernel_rfl)) (fun _ _ _ h => h) (Or.inl ⟨by rfl, ?_⟩) ?_ ?_
                    rotate_left
                    · intro w'
                      go_simp
                      with_reducible rfl
                    rotate_left
                    · simp only [Act.put, List.setIfInBounds_toArray, List.set_cons_zero, List.set_cons_succ, i64_w, i32_w]
                      rfl
                    refine pure_ (i := 35) (N := some 65) (v := ?_) (a' := ?_) #[oI, oI, oI, oI, oI, oI, oI, oI, oI, oI, oI, oI, oI, oI, oI, oI, oI, oI, oI, oI, oI, oI, oI, oI, oI, oI, oI, oI, oI, oI, oI, oI, oI, oI, oI, oI, oO, oO, oO, oO, oO, oO, oO, oO, oO, oO, oO, oO, oO, oO, oO, oO, oO, oO, oO] rfl rfl (any_of HT_.out (by kernel_rfl)) (fun _ _ _ h => h) (Or.inl ⟨by rfl, ?_⟩) ?_ ?_
                    rotate_left
                    · intro w'
                      go_simp
                      with_reducible rfl
                    rotate_left
                    · simp only [Act.put, List.setIfInBounds_toArray, List.set_cons_zero, List.set_cons_succ, i64_w, i32_w]
                      rfl
                    refine pure_ (i := 36) (N := some 66) (v := ?_) (a' := ?_) #[oI, oI, oI, oI, oI, oI, oI, oI, oI, oI, oI, oI, oI, oI, oI, oI, oI, oI, oI, oI, oI, oI, oI, oI, oI, oI, oI, oI, oI, oI, oI, oI, oI, oI, oI, oI, oI, oO, oO, oO, oO, oO, oO, oO, oO, oO, oO, oO, oO, oO, oO, oO, oO, oO, oO] rfl rfl (any_of HT_.out (by kernel_rfl)) (fun _ _ _ h => h) (Or.inl ⟨by rfl, ?_⟩) ?_ ?_
                    rotate_left
                    · intro w'
                      go_simp
                      with_reducible rfl
                    rotate_left
                    · simp only [Act.put, List.setIfInBounds_toArray, List.set_cons_zero, List.set_cons_succ, i64_w, i32_w]
                      rfl
                    refine pure_ (i := 37) (N := some 67) (v := ?_) (a' := ?_) #[oI, oI, oI, oI, oI, oI, oI, oI, oI, oI, oI, oI, oI, oI, oI, oI, oI, oI, oI, oI, oI, oI, oI, oI, oI, oI, oI, oI, oI, oI, oI, oI, oI, oI, oI, oI, oI, oI, oO, oO, oO, oO, oO, oO, oO, oO, oO, oO, oO, oO, oO, oO, oO, oO, oO] rfl rfl (any_of HT_.out (by kernel_rfl)) (fun _ _ _ h => h) (Or.inl ⟨by rfl, ?_⟩) ?_ ?_
                    rotate_left
                    · intro w'
                      go_simp
                      with_reducible rfl
                    rotate_left
                    · simp only [Act.put, List.setIfInBounds_toArray, List.set_cons_zero, List.set_cons_succ, i64_w, i32_w]
                      rfl
                    refine pure_ (i := 38) (N := some 68) (v := ?_) (a' := ?_) #[oI, oI, oI, oI, oI, oI, oI, oI, oI, oI, oI, oI, oI, oI, oI, oI, oI, oI, oI, oI, oI, oI, oI, oI, oI, oI, oI, oI, oI, oI, oI, oI, oI, oI, oI, oI, oI, oI, oI, oO, oO, oO, oO, oO, oO, oO, oO, oO, oO, oO, oO, oO, oO, oO, oO] rfl rfl (any_of HT_.out (by kernel_rfl)) (fun _ _ _ h => h) (Or.inl ⟨by rfl, ?_⟩) ?_ ?_
                    rotate_left
                    · intro w'
                      go_simp
                      with_reducible rfl
                    rotate_left
                    · simp only [Act.put, List.setIfInBounds_toArray, List.set_cons_zero, List.set_cons_succ, i64_w, i32_w]
                      rfl
                    refine pure_ (i := 39) (N := some 69) (v := undef) (a' := ?_) #[oI, oI, oI, oI, oI, oI, oI, oI, oI, oI, oI, oI, oI, oI, oI, oI, oI, oI, oI, oI, oI, oI, oI, oI, oI, oI, oI, oI, oI, oI, oI, oI, oI, oI, oI, oI, oI, oI, oI, oI, oO, oO, oO, oO, oO, oO, oO, oO, oO, oO, oO, oO, oO, oO, oO] rfl rfl (any_of HT_.out (by kernel_rfl)) (fun _ _ _ h => h) (Or.inr ⟨by rfl, rfl⟩) ?_ ?_
                    rotate_left
                    · simp only [Act.put, List.setIfInBounds_toArray, List.set_cons_zero, List.set_cons_succ, i64_w, i32_w]
                      rfl
                    refine pure_ (i := 40) (N := some 70) (v := undef) (a' := ?_) #[oI, oI, oI, oI, oI, oI, oI, oI, oI, oI, oI, oI, oI, oI, oI, oI, oI, oI, oI, oI, oI, oI, oI, oI, oI, oI, oI, oI, oI, oI, oI, oI, oI, oI, oI, oI, oI, oI, oI, oI, oI, oO, oO, oO, oO, oO, oO, oO, oO, oO, oO, oO, oO, oO, oO] rfl rfl (any_of HT_.out (by kernel_rfl)) (fun _ _ _ h => h) (Or.inr ⟨by rfl, rfl⟩) ?_ ?_
                    rotate_left
                    · simp only [Act.put, List.setIfInBounds_toArray, List.set_cons_zero, List.set_cons_succ, i64_w, i32_w]
                      rfl
                    refine pure_ (i := 41) (N := some 71) (v := undef) (a' := ?_) #[oI, oI, oI, oI, oI, oI, oI, oI, oI, oI, oI, oI, oI, oI, oI, oI, oI, oI, oI, oI, oI, oI, oI, oI, oI, oI, oI, oI, oI, oI, oI, oI, oI, oI, oI, oI, oI, oI, oI, oI, oI, oI, oO, oO, oO, oO, oO, oO, oO, oO, oO, oO, oO, oO, oO] rfl rfl (any_of HT_.out (by kernel_rfl)) (fun _ _ _ h => h) (Or.inr ⟨by rfl, rfl⟩) ?_ ?_
                    rotate_left
                    · simp only [Act.put, List.setIfInBounds_toArray, List.set_cons_zero, List.set_cons_succ, i64_w, i32_w]
                      rfl
                    refine pure_ (i := 42) (N := some 72) (v := ?_) (a' := ?_) #[oI, oI, oI, oI, oI, oI, oI, oI, oI, oI, oI, oI, oI, oI, oI, oI, oI, oI, oI, oI, oI, oI, oI, oI, oI, oI, oI, oI, oI, oI, oI, oI, oI, oI, oI, oI, oI, oI, oI, oI, oI, oI, oI, oO, oO, oO, oO, oO, oO, oO, oO, oO, oO, oO, oO] rfl rfl (any_of HT_.out (by kernel_rfl)) (fun _ _ _ h => h) (Or.inl ⟨by rfl, ?_⟩) ?_ ?_
                    rotate_left
                    · intro w'
                      go_simp
                      with_reducible rfl
                    rotate_left
                    · simp only [Act.put, List.setIfInBounds_toArray, List.set_cons_zero, List.set_cons_succ, i64_w, i32_w]
                      rfl
                    refine pure_ (i := 43) (N := some 73) (v := ?_) (a' := ?_) #[oI, oI, oI, oI, oI, oI, oI, oI, oI, oI, oI, oI, oI, oI, oI, oI, oI, oI, oI, oI, oI, oI, oI, oI, oI, oI, oI, oI, oI, oI, oI, oI, oI, oI, oI, oI, oI, oI, oI, oI, oI, oI, oI, oI, oO, oO, oO, oO, oO, oO, oO, oO, oO, oO, oO] rfl rfl (any_of HT_.out (by kernel_rfl)) (fun _ _ _ h => h) (Or.inl ⟨by rfl, ?_⟩) ?_ ?_
                    rotate_left
                    · intro w'
                      go_simp
                      with_reducible rfl
                    rotate_left
                    · simp only [Act.put, List.setIfInBounds_toArray, List.set_cons_zero, List.set_cons_succ, i64_w, i32_w]
                      rfl
                    refine pure_ (i := 44) (N := some 74) (v := ?_) (a' := ?_) #[oI, oI, oI, oI, oI, oI, oI, oI, oI, oI, oI, oI, oI, oI, oI, oI, oI, oI, oI, oI, oI, oI, oI, oI, oI, oI, oI, oI, oI, oI, oI, oI, oI, oI, oI, oI, oI, oI, oI, oI, oI, oI, oI, oI, oI, oO, oO, oO, oO, oO, oO, oO, oO, oO, oO] rfl rfl (any_of HT_.out (by kernel_rfl)) (fun _ _ _ h => h) (Or.inl ⟨by rfl, ?_⟩) ?_ ?_
                    rotate_left
                    · intro w'
                      go_simp
                      with_reducible rfl
                    rotate_left
                    · simp only [Act.put, List.setIfInBounds_toArray, List.set_cons_zero, List.set_cons_succ, i64_w, i32_w]
                      rfl
                    refine pure_ (i := 45) (N := some 75) (v := ?_) (a' := ?_) #[oI, oI, oI, oI, oI, oI, oI, oI, oI, oI, oI, oI, oI, oI, oI, oI, oI, oI, oI, oI, oI, oI, oI, oI, oI, oI, oI, oI, oI, oI, oI, oI, oI, oI, oI, oI, oI, oI, oI, oI, oI, oI, oI, oI, oI, oI, oO, oO, oO, oO, oO, oO, oO, oO, oO] rfl rfl (any_of HT_.out (by kernel_rfl)) (fun _ _ _ h => h) (Or.inl ⟨by rfl, ?_⟩) ?_ ?_
                    rotate_left
                    · intro w'
                      go_simp
                      with_reducible rfl
                    rotate_left
                    · simp only [Act.put, List.setIfInBounds_toArray, List.set_cons_zero, List.set_cons_succ, i64_w, i32_w]
                      rfl
                    refine take_ (i := 46) (N := some 76) (v := ?_) (a' := ?_) #[oI, oI, oI, oI, oI, oI, oI, oI, oI, oI, oI, oI, oI, oI, oI, oI, oI, oI, oI, oI, oI, oI, oI, oI, oI, oI, oI, oI, oI, oI, oI, oI, oI, oI, oI, oI, oI, oI, oI, oI, oI, oI, oI, oI, oI, oI, oI, oO, oO, oO, oO, oO, oO, oO, oO] rfl rfl (take_ofW HT_.out HW_.out (by kernel_rfl)) (fun _ _ _ h => h) (Or.inl ⟨by rfl, ?_⟩) hHeld ?_ ?_
                    rotate_left
                    · rintro w' ⟨s0, s1, s2, s3, s4, s5, s6, s7, s8⟩
                      go_simp
                      with_reducible rfl
                    rotate_left
                    · simp only [Act.put, List.setIfInBounds_toArray, List.set_cons_zero, List.set_cons_succ, i64_w, i32_w]
                      rfl
                    refine pure_ (i := 47) (N := some 77) (v := ?_) (a' := ?_) #[oI, oI, oI, oI, oI, oI, oI, oI, oI, oI, oI, oI, oI, oI, oI, oI, oI, oI, oI, oI, oI, oI, oI, oI, oI, oI, oI, oI, oI, oI, oI, oI, oI, oI, oI, oI, oI, oI, oI, oI, oI, oI, oI, oI, oI, oI, oI, oI, oO, oO, oO, oO, oO, oO, oO] rfl rfl (any_of HT_.out (by kernel_rfl)) (fun _ _ _ h => h) (Or.inl ⟨by rfl, ?_⟩) ?_ ?_
                    rotate_left
                    · intro w'
                      go_simp
                      with_reducible rfl
                    rotate_left
                    · simp only [Act.put, List.setIfInBounds_toArray, List.set_cons_zero, List.set_cons_succ, i64_w, i32_w]
                      rfl
                    refine pure_ (i := 48) (N := some 78) (v := ?_) (a' := ?_) #[oI, oI, oI, oI, oI, oI, oI, oI, oI, oI, oI, oI, oI, oI, oI, oI, oI, oI, oI, oI, oI, oI, oI, oI, oI, oI, oI, oI, oI, oI, oI, oI, oI, oI, oI, oI, oI, oI, oI, oI, oI, oI, oI, oI, oI, oI, oI, oI, oI, oO, oO, oO, oO, oO, oO] rfl rfl (any_of HT_.out (by kernel_rfl)) (fun _ _ _ h => h) (Or.inl ⟨by rfl, ?_⟩) ?_ ?_
                    rotate_left
                    · intro w'
                      go_simp
                      with_reducible rfl
                    rotate_left
                    · simp only [Act.put, List.setIfInBounds_toArray, List.set_cons_zero, List.set_cons_succ, i64_w, i32_w]
                      rfl
                    refine take_ (i := 49) (N := some 79) (v := ?_) (a' := ?_) #[oI, oI, oI, oI, oI, oI, oI, oI, oI, oI, oI, oI, oI, oI, oI, oI, oI, oI, oI, oI, oI, oI, oI, oI, oI, oI, oI, oI, oI, oI, oI, oI, oI, oI, oI, oI, oI, oI, oI, oI, oI, oI, oI, oI, oI, oI, oI, oI, oI, oI, oO, oO, oO, oO, oO] rfl rfl (take_ofW HT_.out HW_.out (by kernel_rfl)) (fun _ _ _ h => h) (Or.inl ⟨by rfl, ?_⟩) hHeld ?_ ?_
                    rotate_left
                    · rintro w' ⟨s0, s1, s2, s3, s4, s5, s6, s7, s8⟩
                      go_simp
                      with_reducible rfl
                    rotate_left
                    · simp only [Act.put, List.setIfInBounds_toArray, List.set_cons_zero, List.set_cons_succ, i64_w, i32_w]
                      rfl
                    refine take_ (i := 50) (N := some 80) (v := ?_) (a' := ?_) #[oI, oI, oI, oI, oI, oI, oI, oI, oI, oI, oI, oI, oI, oI, oI, oI, oI, oI, oI, oI, oI, oI, oI, oI, oI, oI, oI, oI, oI, oI, oI, oI, oI, oI, oI, oI, oI, oI, oI, oI, oI, oI, oI, oI, oI, oI, oI, oI, oI, oI, oI, oO, oO, oO, oO] rfl rfl (take_ofW HT_.out HW_.out (by kernel_rfl)) (fun _ _ _ h => h) (Or.inl ⟨by rfl, ?_⟩) hHeld ?_ ?_
                    rotate_left
                    · rintro w' ⟨s0, s1, s2, s3, s4, s5, s6, s7, s8⟩
                      go_simp
                      with_reducible rfl
                    rotate_left
                    · simp only [Act.put, List.setIfInBounds_toArray, List.set_cons_zero, List.set_cons_succ, i64_w, i32_w]
                      rfl
                    refine pure_ (i := 51) (N := some 81) (v := ?_) (a' := ?_) #[oI, oI, oI, oI, oI, oI, oI, oI, oI, oI, oI, oI, oI, oI, oI, oI, oI, oI, oI, oI, oI, oI, oI, oI, oI, oI, oI, oI, oI, oI, oI, oI, oI, oI, oI, oI, oI, oI, oI, oI, oI, oI, oI, oI, oI, oI, oI, oI, oI, oI, oI, oI, oO, oO, oO] rfl rfl (any_of HT_.out (by kernel_rfl)) (fun _ _ _ h => h) (Or.inl ⟨by rfl, ?_⟩) ?_ ?_
                    rotate_left
                    · intro w'
                      go_simp
                      with_reducible rfl
                    rotate_left
                    · simp only [Act.put, List.setIfInBounds_toArray, List.set_cons_zero, List.set_cons_succ, i64_w, i32_w]
                      rfl
                    refine pure_ (i := 52) (N := some 82) (v := ?_) (a' := ?_) #[oI, oI, oI, oI, oI, oI, oI, oI, oI, oI, oI, oI, oI, oI, oI, oI, oI, oI, oI, oI, oI, oI, oI, oI, oI, oI, oI, oI, oI, oI, oI, oI, oI, oI, oI, oI, oI, oI, oI, oI, oI, oI, oI, oI, oI, oI, oI, oI, oI, oI, oI, oI, oI, oO, oO] rfl rfl (any_of HT_.out (by kernel_rfl)) (fun _ _ _ h => h) (Or.inl ⟨by rfl, ?_⟩) ?_ ?_
                    rotate_left
                    · intro w'
                      go_simp
                      with_reducible rfl
                    rotate_left
                    · simp only [Act.put, List.setIfInBounds_toArray, List.set_cons_zero, List.set_cons_succ, i64_w, i32_w]
                      rfl
                    refine pure_ (i := 53) (N := some 83) (v := ?_) (a' := ?_) #[oI, oI, oI, oI, oI, oI, oI, oI, oI, oI, oI, oI, oI, oI, oI, oI, oI, oI, oI, oI, oI, oI, oI, oI, oI, oI, oI, oI, oI, oI, oI, oI, oI, oI, oI, oI, oI, oI, oI, oI, oI, oI, oI, oI, oI, oI, oI, oI, oI, oI, oI, oI, oI, oI, oO] rfl rfl (any_of HT_.out (by kernel_rfl)) (fun _ _ _ h => h) (Or.inl ⟨by rfl, ?_⟩) ?_ ?_
                    rotate_left
                    · intro w'
                      go_simp
                      with_reducible rfl
                    rotate_left
                    · simp only [Act.put, List.setIfInBounds_toArray, List.set_cons_zero, List.set_cons_succ, i64_w, i32_w]
                      rfl
                    refine pure_ (i := 54) (N := some 6) (v := ?_) (a' := ?_) #[oI, oI, oI, oI, oI, oI, oI, oI, oI, oI, oI, oI, oI, oI, oI, oI, oI, oI, oI, oI, oI, oI, oI, oI, oI, oI, oI, oI, oI, oI, oI, oI, oI, oI, oI, oI, oI, oI, oI, oI, oI, oI, oI, oI, oI, oI, oI, oI, oI, oI, oI, oI, oI, oI, oI] rfl rfl (any_of HT_.out (by kernel_rfl)) (fun _ _ _ h => h) (Or.inl ⟨by rfl, ?_⟩) ?_ ?_
                    rotate_left
                    · intro w'
                      go_simp
                      with_reducible rfl
                    rotate_left
                    · simp only [Act.put, List.setIfInBounds_toArray, List.set_cons_zero, List.set_cons_succ, i64_w, i32_w]
                      rfl
                    refine done_ (done_of HT_.out (by kernel_rfl)) ?_
                    try go_wp2
                    go_ret
                    exact ⟨by first | rfl | (simp [errW_none, errW_some] <;> rfl) | (simp [*, errW_none, errW_some] <;> rfl), by repeat (first | (with_reducible first | exact HB.out | apply pA | apply pN | apply pD | refine pS ?_ GE409.out | refine pS ?_ GE416.out | refine pS ?_ GE424.out) | exact HB.out)⟩
              · rw [if_neg c16] at H
                have c16b0 : (t413 == a0_1) = false := beq_eq_false_iff_ne.mpr c16
                have c16b1 : (t413 != a0_1) = true := bne_iff_ne.mpr c16
                exact absurd ((Option.some.inj H).trans hlaw_.out) (by decide)
            · rw [if_neg c15] at H
              have c15b0 : (t412 == a0_0) = false := beq_eq_false_iff_ne.mpr c15
              have c15b1 : (t412 != a0_0) = true := bne_iff_ne.mpr c15
              exact absurd ((Option.some.inj H).trans hlaw_.out) (by decide)
          · rw [if_neg c14] at H
            have c14b0 : (t425 == t420 && (t426 == t421 && (t427 == t422))) = false := by simpa using c14
            (try (have c14b1 : decide (t425 = t420 && (t426 == t421 && (t427 == t422))) = false := by simpa using c14))
            (try (have c14b2 : (t425 == t420 && (t426 == t421 && (t427 == t422))) = false := by simpa using c14))
            (try (have c14b3 : ¬ (t425 = t420 && (t426 == t421 && (t427 == t422))) := by simpa using c14))
            clear c14
            exact absurd ((Option.some.inj H).trans hlaw_.out) (by decide)
        · rw [if_neg c12] at H
          have c12b0 : (t414 == t422) = false := beq_eq_false_iff_ne.mpr c12
          have c12b1 : (t414 != t422) = true := bne_iff_ne.mpr c12
          exact absurd ((Option.some.inj H).trans hlaw_.out) (by decide)
      · rw [if_neg c11] at H
        have c11b0 : (t415 == t423) = false := by simpa using c11
        (try (have c11b1 : decide (t415 = t423) = false := by simpa using c11))
        (try (have c11b2 : (t415 == t423) = false := by simpa using c11))
        (try (have c11b3 : ¬ (t415 = t423) := by simpa using c11))
        clear c11
        exact absurd ((Option.some.inj H).trans hlaw_.out) (by decide)
    · replace c10 := Bool.eq_false_iff.mpr c10
      subst c10
      have H1 : (some false) = some r := by rw [if_neg (show ¬ (false = true) by decide)] at H; exact H
      clear H
      have H := H1
      clear H1
      exact absurd ((Option.some.inj H).trans hlaw_.out) (by decide)
  · replace c6 := Bool.eq_false_iff.mpr c6
    subst c6
    have H1 : (some t410) = some r := by rw [if_neg (show ¬ (false = true) by decide)] at H; exact H
    clear H
    have H := H1
    clear H1
    clear hlaw_
    obtain rfl := Option.some.inj H
    go_enter Try.func7, Try.ntmps7
    go_wp2_with (first | ((with_reducible refine gate_dst (N := 3) rfl ?_); refine box_event ?hg (N := 3) ?hd (cs := #[.int .u64 a0_0, .int .u64 a0_1, .int .i64 a0_2]) (t := 24) ?hr ?_; (case hd => rfl); (case hg => rfl); (case hr => first | (go_simp; done) | (go_simp; rfl)); intro gb409 hg w97 hbox hb; have n0_ := Aside0.mk (below_step (by repeat (first | (with_reducible first | exact HB.out | apply pA | apply pN | apply pD) | exact HB.out)) hb); have n1_ := Aside0.mk (hbox); have n2_ := Aside0.mk ((by rw [hg]; exact (below_size (by repeat (first | (with_reducible first | exact HB.out | apply pA | apply pN | apply pD) | exact HB.out))) : w.heap.size ≤ gb409)); have n3_ := Aside0.mk ((by rw [hg]; exact (below_size (by repeat (first | (with_reducible first | exact HB.out | apply pA | apply pN | apply pD) | exact HB.out))) : w.heap.size ≤ gb409)); clear HB; have HB := n0_; have BK409 := n1_; have GW409 := n2_; have GE409 := n3_; clear n0_ n1_ n2_ n3_; clear hb hbox hg) | ((with_reducible refine gate_callee (f := 9) rfl ?_); refine goesL_ (some 12) rfl rfl Try.func9 (by kernel_rfl) rfl #[] rfl (by (try simp only [List.map_toArray, List.map_cons, List.map_nil]); first | done | rfl | (simp only [List.length_drop, List.length_take]; rfl)) ?_; (with_reducible refine (portreevelaw17_shown.calls k  t410 _ A4.out).mono ?_); rintro e w98 ⟨rfl, hb⟩; refine ⟨_, rfl, ?_⟩; have n0_ := Aside0.mk (blk_below (g := gb409) (o := .cells #[.int .u64 a0_0, .int .u64 a0_1, .int .i64 a0_2] 24 (0, 0)) (by (with_reducible repeat (first | refine qN ?_ _ | refine qD ?_ | refine qA ?_ _)); exact BK409.out) hb); have n1_ := Aside0.mk (below_step (by repeat (first | (with_reducible first | exact HB.out | apply pA | apply pN | apply pD | refine pS ?_ GE409.out) | exact HB.out)) hb); clear BK409; clear HB; have BK409 := n0_; have HB := n1_; clear n0_ n1_; (try clear hb); (try clear hb2); (try clear hk); (try clear hi); have hcz99_0 : w98.cell? ⟨gb409, 0, none⟩ = some (.int .u64 a0_0) := (blk_cell BK409.out 0).trans rfl; have hcz99_1 : w98.cell? ⟨gb409, 1, none⟩ = some (.int .u64 a0_1) := (blk_cell BK409.out 1).trans rfl; have hcz99_2 : w98.cell? ⟨gb409, 2, none⟩ = some (.int .i64 a0_2) := (blk_cell BK409.out 2).trans rfl; have hfz99_0 := blk_frozen BK409.out 0; have hfz99_1 := blk_frozen BK409.out 1; have hfz99_2 := blk_frozen BK409.out 2) | ((with_reducible refine gate_callee (f := 10) rfl ?_); refine goesL_ (some 14) rfl rfl Try.func10 (by kernel_rfl) rfl #[.agg #[.int .u64 a0_0, .int .u64 a0_1, .int .i64 a0_2]] rfl (by (try simp only [List.map_toArray, List.map_cons, List.map_nil]); first | done | rfl | (simp only [List.length_drop, List.length_take]; rfl)) ?_; (with_reducible refine (portreeveref17_Right.calls a0_0 a0_1 a0_2 false _ A5.out).mono ?_); rintro e w100 ⟨rfl, hb⟩; refine ⟨_, rfl, ?_⟩; have n0_ := Aside0.mk (blk_below (g := gb409) (o := .cells #[.int .u64 a0_0, .int .u64 a0_1, .int .i64 a0_2] 24 (0, 0)) (by (with_reducible repeat (first | refine qN ?_ _ | refine qD ?_ | refine qA ?_ _)); exact BK409.out) hb); have n1_ := Aside0.mk (below_step (by repeat (first | (with_reducible first | exact HB.out | apply pA | apply pN | apply pD | refine pS ?_ GE409.out) | exact HB.out)) hb); clear BK409; clear HB; have BK409 := n0_; have HB := n1_; clear n0_ n1_; (try clear hb); (try clear hb2); (try clear hk); (try clear hi)))
    go_ret
    exact ⟨by first | rfl | (simp [errW_none, errW_some] <;> rfl) | (simp [*, errW_none, errW_some] <;> rfl), by repeat (first | (with_reducible first | exact HB.out | apply pA | apply pN | apply pD | refine pS ?_ GE409.out) | exact HB.out)⟩

end Go.Proofs.Ytlimlbhhbjaljaa.Q

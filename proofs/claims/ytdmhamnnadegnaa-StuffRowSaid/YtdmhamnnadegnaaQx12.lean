-- written by this session's own program (wip/tools/myprint.py), over the kit's print
import Derived.Test.YtdmhamnnadegnaaQx0
import Derived.Test.YtdmhamnnadegnaaQx3
import Derived.Test.YtdmhamnnadegnaaQx5
import Derived.Test.YtdmhamnnadegnaaQx6
import Derived.Test.YtdmhamnnadegnaaQx7
namespace Go.Proofs.Ytdmhamnnadegnaa.Q
open Go.RowKit Go.Proofs.YtdmhamnnadegnaaW.PrintWords Go.Proofs.YtdmhamnnadegnaaW.PrintLast Go.Proofs.YtdmhamnnadegnaaW.PrintMore
open Go.Proofs.YtdmhamnnadegnaaV
attribute [local go_sem] max2_int min2_int max_two min_two max_three min_three max_four min_four   -- for this text's walks alone
set_option linter.unusedVariables false
set_option linter.unusedSimpArgs false

/-! ### portreevelaw07_StuffRow: function 6 -/
mutual
def portreevelaw07_StuffRow.l0 : Nat → List (List Int) → Int → Bool → List Int → List Int → Int → Option (Bool)
  | 0, _, _, _, _, _, _ => none
  | k + 1, x0, x1, x5, x6, x7, x8 => if x8 < (x0.length : Int) then (if 0 ≤ x8 then (if ((rd_L2 x0 x8).length : Int) < 1 then (portreevelaw07_StuffRow.j1 k x0 x1 x5 x6 x7 x8 true) else (portreevelaw07_StuffRow.j1 k x0 x1 x5 x6 x7 x8 (decide (((rd_L2 x0 x8).length : Int) > 700)))) else (none)) else (if x7.length < 140737488355328 then (if x5 = true then ((stuff_All.f k x6).bind fun t385 => ((portreeveref07_Frames.f k t385 x0).bind fun t388 => (if t388 = true then ((stuff_All.f k (x7 ++ [126])).bind fun t389 => ((portreeveref07_Frames.f k t389 x0).bind fun t392 => (some t392))) else (some false)))) else (some false)) else (none))
def portreevelaw07_StuffRow.j1 : Nat → List (List Int) → Int → Bool → List Int → List Int → Int → Bool → Option (Bool)
  | 0, _, _, _, _, _, _, _ => none
  | k + 1, x0, x1, x5, x6, x7, x8, x33 => if x33 = true then (some x5) else (if 0 ≤ x8 then (if x8 < (x0.length : Int) then ((stuff_Send.f k (rd_L2 x0 x8) x1).bind fun t366 => (if x6.length + t366.length < 140737488355328 then (if x7.length < 140737488355328 then ((some (x7 ++ [126] : List Int)).bind fun y372 => ((stuff_Escape.f k (rd_L2 x0 x8) x1).bind fun t376 => (if y372.length + t376.length < 140737488355328 then (portreevelaw07_StuffRow.l0 k x0 x1 x5 (x6 ++ t366) (y372 ++ t376) (wrap64 (x8 + 1))) else (none)))) else (none)) else (none))) else (none)) else (none))
end
def portreevelaw07_StuffRow.f (k : Nat) (l0 : List (List Int)) (a1 : Int) : Option (Bool) := (portreevelaw07_shown.f k).bind fun t362 => (if (l0.length : Int) > 20 then (some t362) else (portreevelaw07_StuffRow.l0 k l0 a1 t362 ([] : List Int) ([] : List Int) 0))
theorem portreevelaw07_StuffRow.mono_l : ∀ k, (∀ y0 y1 y2 y3 y4 y5, LeO (portreevelaw07_StuffRow.l0 k y0 y1 y2 y3 y4 y5) (portreevelaw07_StuffRow.l0 (k + 1) y0 y1 y2 y3 y4 y5)) ∧ (∀ y0 y1 y2 y3 y4 y5 y6, LeO (portreevelaw07_StuffRow.j1 k y0 y1 y2 y3 y4 y5 y6) (portreevelaw07_StuffRow.j1 (k + 1) y0 y1 y2 y3 y4 y5 y6))
  | 0 => ⟨fun _ _ _ _ _ _ r h => by simp [portreevelaw07_StuffRow.l0] at h, fun _ _ _ _ _ _ _ r h => by simp [portreevelaw07_StuffRow.j1] at h⟩
  | k + 1 => by
    obtain ⟨ih0, ih1⟩ := portreevelaw07_StuffRow.mono_l k
    refine ⟨?_, ?_⟩
    · intro y0 y1 y2 y3 y4 y5
      unfold portreevelaw07_StuffRow.l0
      repeat' first
      | (with_reducible exact ih0 _ _ _ _ _ _)
      | (with_reducible exact ih1 _ _ _ _ _ _ _)
      | (with_reducible exact portreevelaw07_shown.mono _)
      | (with_reducible exact portreeveref07_Frames.mono _ _ _)
      | (with_reducible exact stuff_All.mono _ _)
      | (with_reducible exact stuff_Escape.mono _ _ _)
      | (with_reducible exact stuff_Send.mono _ _ _)
      | (with_reducible exact LeO.refl _)
      | (with_reducible exact LeO.none _)
      | (with_reducible refine LeO.ite ?_ ?_)
      | (with_reducible refine LeO.bind ?_ (fun _ => ?_))
      | exact ih0 _ _ _ _ _ _
      | exact ih1 _ _ _ _ _ _ _
      | exact portreevelaw07_shown.mono _
      | exact portreeveref07_Frames.mono _ _ _
      | exact stuff_All.mono _ _
      | exact stuff_Escape.mono _ _ _
      | exact stuff_Send.mono _ _ _
      | exact LeO.none _
      | refine LeO.ite ?_ ?_
      | refine LeO.bind ?_ (fun _ => ?_)
    · intro y0 y1 y2 y3 y4 y5 y6
      unfold portreevelaw07_StuffRow.j1
      repeat' first
      | (with_reducible exact ih0 _ _ _ _ _ _)
      | (with_reducible exact ih1 _ _ _ _ _ _ _)
      | (with_reducible exact portreevelaw07_shown.mono _)
      | (with_reducible exact portreeveref07_Frames.mono _ _ _)
      | (with_reducible exact stuff_All.mono _ _)
      | (with_reducible exact stuff_Escape.mono _ _ _)
      | (with_reducible exact stuff_Send.mono _ _ _)
      | (with_reducible exact LeO.refl _)
      | (with_reducible exact LeO.none _)
      | (with_reducible refine LeO.ite ?_ ?_)
      | (with_reducible refine LeO.bind ?_ (fun _ => ?_))
      | exact ih0 _ _ _ _ _ _
      | exact ih1 _ _ _ _ _ _ _
      | exact portreevelaw07_shown.mono _
      | exact portreeveref07_Frames.mono _ _ _
      | exact stuff_All.mono _ _
      | exact stuff_Escape.mono _ _ _
      | exact stuff_Send.mono _ _ _
      | exact LeO.none _
      | refine LeO.ite ?_ ?_
      | refine LeO.bind ?_ (fun _ => ?_)
theorem portreevelaw07_StuffRow.mono : ∀ a0 a1 k, LeO (portreevelaw07_StuffRow.f k a0 a1) (portreevelaw07_StuffRow.f (k + 1) a0 a1) := by
  intro a0 a1 k
  obtain ⟨ih0, ih1⟩ := portreevelaw07_StuffRow.mono_l k
  unfold portreevelaw07_StuffRow.f
  repeat' first
      | (with_reducible exact ih0 _ _ _ _ _ _)
      | (with_reducible exact ih1 _ _ _ _ _ _ _)
      | (with_reducible exact portreevelaw07_shown.mono _)
      | (with_reducible exact portreeveref07_Frames.mono _ _ _)
      | (with_reducible exact stuff_All.mono _ _)
      | (with_reducible exact stuff_Escape.mono _ _ _)
      | (with_reducible exact stuff_Send.mono _ _ _)
      | (with_reducible exact LeO.refl _)
      | (with_reducible exact LeO.none _)
      | (with_reducible refine LeO.ite ?_ ?_)
      | (with_reducible refine LeO.bind ?_ (fun _ => ?_))
      | exact ih0 _ _ _ _ _ _
      | exact ih1 _ _ _ _ _ _ _
      | exact portreevelaw07_shown.mono _
      | exact portreeveref07_Frames.mono _ _ _
      | exact stuff_All.mono _ _
      | exact stuff_Escape.mono _ _ _
      | exact stuff_Send.mono _ _ _
      | exact LeO.none _
      | refine LeO.ite ?_ ?_
      | refine LeO.bind ?_ (fun _ => ?_)
set_option maxHeartbeats 8000000 in
set_option maxRecDepth 100000 in
theorem portreevelaw07_StuffRow.calls (k : Nat) (A0 : Option Addr) (c0 : Nat) (l0 : List (List Int)) (a1 : Int) (r : Bool) (w : World) (hlaw_ : Aside0 (r = true)) (hr0 : Kd.C (Kd.slice 5 (Kd.int .u8)) w A0 l0.length l0) (hc0 : l0.length ≤ c0) (h : portreevelaw07_StuffRow.f k l0 a1 = some r) :
    Calls Try.prog 6 #[.slice A0 l0.length c0, .int .u32 a1] w fun e w' => e = .returned (.bool r) ∧ Below w.heap.size w w' := by
  have HR0 := Aside0.mk hr0
  have HC0 := Aside0.mk hc0
  clear hr0 hc0
  have HB := Aside0.mk (Below.refl w.heap.size w)
  have H : ((portreevelaw07_shown.f k).bind fun t362 => (if (l0.length : Int) > 20 then (some t362) else (portreevelaw07_StuffRow.l0 k l0 a1 t362 ([] : List Int) ([] : List Int) 0))) = some r := h
  clear h
  replace H := Option.bind_eq_some_iff.mp H
  obtain ⟨t362, A30, H⟩ := H
  replace H : (if (l0.length : Int) > 20 then (some t362) else (portreevelaw07_StuffRow.l0 k l0 a1 t362 ([] : List Int) ([] : List Int) 0)) = some r := H
  have A3 := Aside0.mk A30
  clear A30
  by_cases c4 : (l0.length : Int) > 20
  · rw [if_pos c4] at H
    have c4b0 : decide (20 < (l0.length : Int)) = true := decide_eq_true c4
    have c4b1 : decide (20 < l0.length) = true := decide_eq_true (by omega)
    clear c4
    clear hlaw_
    obtain rfl := Option.some.inj H
    go_enter Try.func6, Try.ntmps6
    go_wp2_with (first | ((with_reducible refine gate_callee (f := 10) rfl ?_); refine goesL_ (some 9) rfl rfl Try.func10 (by kernel_rfl) rfl #[] rfl (by (try simp only [List.map_toArray, List.map_cons, List.map_nil]); first | done | rfl | (simp only [List.length_drop, List.length_take]; rfl)) ?_; (with_reducible refine (portreevelaw07_shown.calls k  t362 _ A3.out).mono ?_); rintro e w5 ⟨rfl, hb⟩; refine ⟨_, rfl, ?_⟩; have n0_ := Aside0.mk (below_step (by repeat (first | (with_reducible first | exact HB.out | apply pA | apply pN | apply pD) | exact HB.out)) hb); clear HB; have HB := n0_; clear n0_; (try clear hb); (try clear hb2); (try clear hk); (try clear hi)))
    go_ret
    exact ⟨by first | rfl | (simp [errW_none, errW_some] <;> rfl) | (simp [*, errW_none, errW_some] <;> rfl), by repeat (first | (with_reducible first | exact HB.out | apply pA | apply pN | apply pD) | exact HB.out)⟩
  · rw [if_neg c4] at H
    have c4b0 : decide (20 < (l0.length : Int)) = false := decide_eq_false c4
    have c4b1 : decide (20 < l0.length) = false := decide_eq_false (by omega)
    clear c4
    have H' := Aside0.mk H
    clear H
    go_enter Try.func6, Try.ntmps6
    go_wp2_with (first | ((with_reducible refine gate_callee (f := 10) rfl ?_); refine goesL_ (some 9) rfl rfl Try.func10 (by kernel_rfl) rfl #[] rfl (by (try simp only [List.map_toArray, List.map_cons, List.map_nil]); first | done | rfl | (simp only [List.length_drop, List.length_take]; rfl)) ?_; (with_reducible refine (portreevelaw07_shown.calls k  t362 _ A3.out).mono ?_); rintro e w6 ⟨rfl, hb⟩; refine ⟨_, rfl, ?_⟩; have n0_ := Aside0.mk (below_step (by repeat (first | (with_reducible first | exact HB.out | apply pA | apply pN | apply pD) | exact HB.out)) hb); clear HB; have HB := n0_; clear n0_; (try clear hb); (try clear hb2); (try clear hk); (try clear hi)))
    go_loopg [6, 7, 8] k (fun kq v6 v7 v8 w' => ∃ (x6_1 : List Int) (x7_1 : List Int) (x8_1 : Int), v8 = .int .i64 x8_1 ∧ Aside0 (portreevelaw07_StuffRow.l0 kq l0 a1 t362 x6_1 x7_1 x8_1 = some r) ∧ Aside0 (kq ≤ k) ∧ Aside0 (Kd.R (Kd.int .u8) 5 w' w.heap.size (fun k_ => some k_ ≠ (v7 : Value).ownBlock) v6 x6_1) ∧ Aside0 (Kd.R (Kd.int .u8) 5 w' w.heap.size (fun k_ => some k_ ≠ (v6 : Value).ownBlock) v7 x7_1) ∧ Aside0 (Below w.heap.size w w'))
    case atStart => exact ⟨(([] : List Int)), (([] : List Int)), (0), (by first | rfl | (simp; done) | (simp [*]; done)), H', ⟨Nat.le_refl _⟩, ⟨by first | exact Kd.R_nil _ _ _ _ _ | exact Kd.N_nil _ _ _ _ _ | exact Kd.V_nil _ _ _ _ _ | exact Kd.Q_nil _ _ _ _ _ | exact Kd.S_nil _ _ _ _ _⟩, ⟨by first | exact Kd.R_nil _ _ _ _ _ | exact Kd.N_nil _ _ _ _ _ | exact Kd.V_nil _ _ _ _ _ | exact Kd.Q_nil _ _ _ _ _ | exact Kd.S_nil _ _ _ _ _⟩, ⟨by repeat (first | (with_reducible first | exact HB.out | apply pA | apply pN | apply pD) | exact HB.out)⟩⟩
    case round =>
      clear H'
      try clear c1
      try clear p2
      try clear c4
      try clear c4b0
      try clear c4b1
      try clear c6
      obtain ⟨x6_1, x7_1, x8_1, rfl, HA, HK1, HO_6, HO_7, HB⟩ := hrel
      cases gk with
      | zero => exact absurd HA.out (by simp [portreevelaw07_StuffRow.l0])
      | succ k1 =>
        have H := HA.out
        clear HA
        simp only [portreevelaw07_StuffRow.l0] at H
        by_cases c7 : x8_1 < (l0.length : Int)
        · rw [if_pos c7] at H
          have c7b0 : decide (x8_1 < (l0.length : Int)) = true := decide_eq_true c7
          clear c7
          have HC8 := Aside0.mk H
          clear H
          go_upto_region 9 with (fail)
          go_cut [33] (fun v33 wc => ∃ (kq : Nat) (x33_7 : Bool), v33 = .bool x33_7 ∧ Aside0 (portreevelaw07_StuffRow.j1 kq l0 a1 t362 x6_1 x7_1 x8_1 x33_7 = some r) ∧ Aside0 (kq ≤ k1) ∧ Aside0 (Kd.R (Kd.int .u8) 5 wc w.heap.size (fun k_ => some k_ ≠ (u7 : Value).ownBlock) u6 x6_1) ∧ Aside0 (Kd.R (Kd.int .u8) 5 wc w.heap.size (fun k_ => some k_ ≠ (u6 : Value).ownBlock) u7 x7_1) ∧ Aside0 (Below w.heap.size w wc))
          case first =>
            have H := HC8.out
            clear HC8
            by_cases c9 : 0 ≤ x8_1
            · rw [if_pos c9] at H
              have c9b0 : decide (0 ≤ x8_1) = true := decide_eq_true c9
              clear c9
              (first | rw [c9b0] | (simp only [i64_w, i32_w]; rw [c9b0]) | skip)
              by_cases c10 : ((rd_L2 l0 x8_1).length : Int) < 1
              · rw [if_pos c10] at H
                have c10b0 : decide (((rd_L2 l0 x8_1).length : Int) < 1) = true := decide_eq_true c10
                have c10b1 : decide ((rd_L2 l0 x8_1).length < 1) = true := decide_eq_true (by omega)
                clear c10
                have H' := Aside0.mk H
                clear H
                have p363 : 0 ≤ (x8_1 : Int) := of_decide_eq_true (by first | (with_reducible assumption) | assumption)
                have q363 : x8_1 < (l0.length : Int) := of_decide_eq_true (by first | (with_reducible assumption) | assumption)
                obtain ⟨ad363, A363_0, c363_0, e363, hx363_0, hl363_0, hi363_0⟩ := at_L2 HR0.out x8_1 p363 q363
                cases e363
                replace hx363_0 := (HB.out.cell (World.block_lt_of_cell? w _ hx363_0)).trans hx363_0
                have HR363_0 := Aside0.mk hi363_0
                have HC363_0 := Aside0.mk hl363_0
                clear hi363_0 hl363_0
                replace p363 := eq_true p363
                replace q363 := eq_true q363
                go_wp2
                go_meet
                case rel => exact ⟨_, (true), (by first | rfl | (simp; done) | (simp [*]; done)), H', ⟨by have := HK1.out; first | omega | exact Nat.le_refl _⟩, ⟨by (with_reducible repeat (first | apply Kd.R_alloc | apply Kd.R_drewN | apply Kd.R_drew)); exact HO_6.out⟩, ⟨by (with_reducible repeat (first | apply Kd.R_alloc | apply Kd.R_drewN | apply Kd.R_drew)); exact HO_7.out⟩, ⟨by repeat (first | (with_reducible first | exact HB.out | apply pA | apply pN | apply pD) | exact HB.out)⟩⟩
              · rw [if_neg c10] at H
                have c10b0 : decide (((rd_L2 l0 x8_1).length : Int) < 1) = false := decide_eq_false c10
                have c10b1 : decide ((rd_L2 l0 x8_1).length < 1) = false := decide_eq_false (by omega)
                clear c10
                have H' := Aside0.mk H
                clear H
                have p363 : 0 ≤ (x8_1 : Int) := of_decide_eq_true (by first | (with_reducible assumption) | assumption)
                have q363 : x8_1 < (l0.length : Int) := of_decide_eq_true (by first | (with_reducible assumption) | assumption)
                obtain ⟨ad363, A363_0, c363_0, e363, hx363_0, hl363_0, hi363_0⟩ := at_L2 HR0.out x8_1 p363 q363
                cases e363
                replace hx363_0 := (HB.out.cell (World.block_lt_of_cell? w _ hx363_0)).trans hx363_0
                have HR363_0 := Aside0.mk hi363_0
                have HC363_0 := Aside0.mk hl363_0
                clear hi363_0 hl363_0
                replace p363 := eq_true p363
                replace q363 := eq_true q363
                have p364 : 0 ≤ (x8_1 : Int) := of_decide_eq_true (by first | (with_reducible assumption) | assumption)
                have q364 : x8_1 < (l0.length : Int) := of_decide_eq_true (by first | (with_reducible assumption) | assumption)
                obtain ⟨ad364, A364_0, c364_0, e364, hx364_0, hl364_0, hi364_0⟩ := at_L2 HR0.out x8_1 p364 q364
                obtain rfl : ad363 = ad364 := (by injection e364)
                replace hx364_0 := (HB.out.cell (World.block_lt_of_cell? w _ hx364_0)).trans hx364_0
                have HR364_0 := Aside0.mk hi364_0
                have HC364_0 := Aside0.mk hl364_0
                clear hi364_0 hl364_0
                replace p364 := eq_true p364
                replace q364 := eq_true q364
                have ea_ := Option.some.inj (hx363_0.symm.trans hx364_0)
                injection ea_ with ea_ en_ ec_
                subst ea_
                subst ec_
                clear en_
                go_wp2
                go_meet
                case rel => exact ⟨_, (decide (((rd_L2 l0 x8_1).length : Int) > 700)), (by first | rfl | (simp; done) | (simp [*]; done)), H', ⟨by have := HK1.out; first | omega | exact Nat.le_refl _⟩, ⟨by (with_reducible repeat (first | apply Kd.R_alloc | apply Kd.R_drewN | apply Kd.R_drew)); exact HO_6.out⟩, ⟨by (with_reducible repeat (first | apply Kd.R_alloc | apply Kd.R_drewN | apply Kd.R_drew)); exact HO_7.out⟩, ⟨by repeat (first | (with_reducible first | exact HB.out | apply pA | apply pN | apply pD) | exact HB.out)⟩⟩
            · rw [if_neg c9] at H
              exact absurd H (by simp)
          case rest =>
            clear HC8
            try clear c1
            try clear p2
            try clear c3
            try clear p3
            try clear q3
            try clear hx3
            try clear c4
            try clear c4b0
            try clear c4b1
            try clear c6
            try clear c7
            try clear c7b0
            try clear c9
            try clear c9b0
            try clear c10
            try clear c10b0
            try clear c10b1
            try clear hx363_0
            try clear hx364_0
            try clear p2
            try clear p363
            try clear p364
            try clear q363
            try clear q364
            obtain ⟨kq, x33_7, rfl, HA, HJ7, HO_6, HO_7, HB⟩ := hcut
            cases kq with
            | zero => exact absurd HA.out (by simp [portreevelaw07_StuffRow.j1])
            | succ kj7 =>
              have H := HA.out
              clear HA
              simp only [portreevelaw07_StuffRow.j1] at H
              by_cases c11 : x33_7 = true
              · subst c11
                have H1 : (some t362) = some r := by rw [if_pos rfl] at H; exact H
                clear H
                have H := H1
                clear H1
                clear hlaw_
                obtain rfl := Option.some.inj H
                go_wp2
                go_ret
                exact ⟨by first | rfl | (simp [errW_none, errW_some] <;> rfl) | (simp [*, errW_none, errW_some] <;> rfl), by repeat (first | (with_reducible first | exact HB.out | apply pA | apply pN | apply pD) | exact HB.out)⟩
              · replace c11 := Bool.eq_false_iff.mpr c11
                subst c11
                have H1 : (if 0 ≤ x8_1 then (if x8_1 < (l0.length : Int) then ((stuff_Send.f kj7 (rd_L2 l0 x8_1) a1).bind fun t366 => (if x6_1.length + t366.length < 140737488355328 then (if x7_1.length < 140737488355328 then ((some (x7_1 ++ [126] : List Int)).bind fun y372 => ((stuff_Escape.f kj7 (rd_L2 l0 x8_1) a1).bind fun t376 => (if y372.length + t376.length < 140737488355328 then (portreevelaw07_StuffRow.l0 kj7 l0 a1 t362 (x6_1 ++ t366) (y372 ++ t376) (wrap64 (x8_1 + 1))) else (none)))) else (none)) else (none))) else (none)) else (none)) = some r := by rw [if_neg (show ¬ (false = true) by decide)] at H; exact H
                clear H
                have H := H1
                clear H1
                by_cases c12 : 0 ≤ x8_1
                · rw [if_pos c12] at H
                  have c12b0 : decide (0 ≤ x8_1) = true := decide_eq_true c12
                  clear c12
                  by_cases c13 : x8_1 < (l0.length : Int)
                  · rw [if_pos c13] at H
                    have c13b0 : decide (x8_1 < (l0.length : Int)) = true := decide_eq_true c13
                    clear c13
                    replace H := Option.bind_eq_some_iff.mp H
                    obtain ⟨t366, A140, H⟩ := H
                    replace H : (if x6_1.length + t366.length < 140737488355328 then (if x7_1.length < 140737488355328 then ((some (x7_1 ++ [126] : List Int)).bind fun y372 => ((stuff_Escape.f kj7 (rd_L2 l0 x8_1) a1).bind fun t376 => (if y372.length + t376.length < 140737488355328 then (portreevelaw07_StuffRow.l0 kj7 l0 a1 t362 (x6_1 ++ t366) (y372 ++ t376) (wrap64 (x8_1 + 1))) else (none)))) else (none)) else (none)) = some r := H
                    have A14 := Aside0.mk A140
                    clear A140
                    by_cases c15 : x6_1.length + t366.length < 140737488355328
                    · rw [if_pos c15] at H
                      have LMc15 := Aside0.mk c15
                      clear c15
                      obtain ⟨y369, hy369⟩ : ∃ y_ : List Int, y_ = (x6_1 ++ t366) := ⟨_, rfl⟩
                      replace H : (if x7_1.length < 140737488355328 then ((some (x7_1 ++ [126] : List Int)).bind fun y372 => ((stuff_Escape.f kj7 (rd_L2 l0 x8_1) a1).bind fun t376 => (if y372.length + t376.length < 140737488355328 then (portreevelaw07_StuffRow.l0 kj7 l0 a1 t362 y369 (y372 ++ t376) (wrap64 (x8_1 + 1))) else (none)))) else (none)) = some r := by first | (rw [hy369]; with_reducible exact H) | (have H2_ := (Option.bind_some _ _).symm.trans H; rw [hy369]; with_reducible exact H2_) | (have H2_ := (Option.bind_some _ _).symm.trans H; with_reducible exact H2_) | with_reducible exact H | (rw [hy369]; exact H) | exact H
                      have Ny369 := Aside0.mk hy369
                      clear hy369
                      by_cases c16 : x7_1.length < 140737488355328
                      · rw [if_pos c16] at H
                        have LMc16 := Aside0.mk c16
                        clear c16
                        obtain ⟨y372, hy372⟩ : ∃ y_ : List Int, y_ = (x7_1 ++ [126]) := ⟨_, rfl⟩
                        replace H : ((stuff_Escape.f kj7 (rd_L2 l0 x8_1) a1).bind fun t376 => (if y372.length + t376.length < 140737488355328 then (portreevelaw07_StuffRow.l0 kj7 l0 a1 t362 y369 (y372 ++ t376) (wrap64 (x8_1 + 1))) else (none))) = some r := by first | (rw [hy372]; with_reducible exact H) | (have H2_ := (Option.bind_some _ _).symm.trans H; rw [hy372]; with_reducible exact H2_) | (have H2_ := (Option.bind_some _ _).symm.trans H; with_reducible exact H2_) | with_reducible exact H | (rw [hy372]; exact H) | exact H
                        have Ny372 := Aside0.mk hy372
                        clear hy372
                        replace H := Option.bind_eq_some_iff.mp H
                        obtain ⟨t376, A170, H⟩ := H
                        replace H : (if y372.length + t376.length < 140737488355328 then (portreevelaw07_StuffRow.l0 kj7 l0 a1 t362 y369 (y372 ++ t376) (wrap64 (x8_1 + 1))) else (none)) = some r := H
                        have A17 := Aside0.mk A170
                        clear A170
                        by_cases c18 : y372.length + t376.length < 140737488355328
                        · rw [if_pos c18] at H
                          have LMc18 := Aside0.mk c18
                          clear c18
                          obtain ⟨y379, hy379⟩ : ∃ y_ : List Int, y_ = (y372 ++ t376) := ⟨_, rfl⟩
                          replace H : (portreevelaw07_StuffRow.l0 kj7 l0 a1 t362 y369 y379 (wrap64 (x8_1 + 1))) = some r := by first | (rw [hy379]; with_reducible exact H) | (have H2_ := (Option.bind_some _ _).symm.trans H; rw [hy379]; with_reducible exact H2_) | (have H2_ := (Option.bind_some _ _).symm.trans H; with_reducible exact H2_) | with_reducible exact H | (rw [hy379]; exact H) | exact H
                          have Ny379 := Aside0.mk hy379
                          clear hy379
                          have H' := Aside0.mk H
                          clear H
                          have p365 : 0 ≤ (x8_1 : Int) := of_decide_eq_true (by first | (with_reducible assumption) | assumption)
                          have q365 : x8_1 < (l0.length : Int) := of_decide_eq_true (by first | (with_reducible assumption) | assumption)
                          obtain ⟨ad365, A365_0, c365_0, e365, hx365_0, hl365_0, hi365_0⟩ := at_L2 HR0.out x8_1 p365 q365
                          cases e365
                          replace hx365_0 := (HB.out.cell (World.block_lt_of_cell? w _ hx365_0)).trans hx365_0
                          have HR365_0 := Aside0.mk hi365_0
                          have HC365_0 := Aside0.mk hl365_0
                          clear hi365_0 hl365_0
                          replace p365 := eq_true p365
                          replace q365 := eq_true q365
                          go_wp2_with (first | ((with_reducible refine gate_callee (f := 16) rfl ?_); refine goesL_ (some 41) rfl rfl Try.func16 (by kernel_rfl) rfl #[.slice A365_0 (rd_L2 l0 x8_1).length c365_0, .int .u32 a1] rfl (by (try simp only [List.map_toArray, List.map_cons, List.map_nil]); first | done | rfl | (simp only [List.length_drop, List.length_take]; rfl)) ?_; (with_reducible refine (stuff_Send.calls kj7 _ _ (rd_L2 l0 x8_1) a1 t366 _ ?side1 ?side2 A14.out).mono ?_); (case side1 => repeat (first | exact (Kd.C_below HR365_0.out HB.out) | (with_reducible refine Kd.C_alloc ?_ _) | (with_reducible refine Kd.C_drewN ?_ _) | (with_reducible refine Kd.C_drew ?_))); (case side2 => exact HC365_0.out); rintro e w19 ⟨v367, rfl, ho0, hb⟩; refine ⟨_, rfl, ?_⟩; have n0_ := Aside0.mk (Kd.R_elder' (by (with_reducible repeat (first | apply Kd.R_alloc | apply Kd.R_drewN | apply Kd.R_drew)); exact HO_6.out) (Kd.R_base ho0) hb); have n1_ := Aside0.mk (Kd.R_elder' (by (with_reducible repeat (first | apply Kd.R_alloc | apply Kd.R_drewN | apply Kd.R_drew)); exact HO_7.out) (Kd.R_base ho0) hb); have n2_ := Aside0.mk (Kd.R_lower (Kd.R_new' (Kd.R_new' ho0 (Kd.R_lt (by (with_reducible repeat (first | apply Kd.R_alloc | apply Kd.R_drewN | apply Kd.R_drew)); exact HO_6.out))) (Kd.R_lt (by (with_reducible repeat (first | apply Kd.R_alloc | apply Kd.R_drewN | apply Kd.R_drew)); exact HO_7.out))) (below_size (by repeat (first | (with_reducible first | exact HB.out | apply pA | apply pN | apply pD) | exact HB.out)))); have n3_ := Aside0.mk (below_step (by repeat (first | (with_reducible first | exact HB.out | apply pA | apply pN | apply pD) | exact HB.out)) hb); clear HO_6; clear HO_7; clear HB; have HO_6 := n0_; have HO_7 := n1_; have HO368 := n2_; have HB := n3_; clear n0_ n1_ n2_ n3_; (try clear hb); (try clear hb2); (try clear hk); (try clear hi); (try clear ho0); obtain ⟨Ao21, co21, eo21⟩ := Kd.R_slice HO368.out; subst eo21) | ((with_reducible refine gate_builtin (b := .append) (xs := #[.tmp 35, .tmp 41]) rfl ?_); (try (refine gate_guard (by rfl) ?_; dsimp only)); at_builtin; refine Kd.R_append_rows (Kd.int .u8) (w0 := w) w.heap.size rfl (.tmp 35) (.tmp 41) 22 5 (.int .u8 0) 1 rfl Try.underlying22 info5 rfl (by decide) (by omega) u6 x6_1 t366 _ _ _ (fun k_ => some k_ ≠ (u7 : Value).ownBlock ∧ some k_ ≠ (.slice Ao21 t366.length co21 : Value).ownBlock) (fun _ => False) rfl rfl ?aO ?aR (fun _ _ h => h) (fun _ h => h.elim) ?aF ?aB ?aS ?aL ?_; (case aR => repeat (first | exact (Kd.R_reads' HO368.out).2.2 | (with_reducible refine Kd.C_alloc ?_ _) | (with_reducible refine Kd.C_drewN ?_ _) | (with_reducible refine Kd.C_drew ?_))); (case aB => exact (by repeat (first | (with_reducible first | exact HB.out | apply pA | apply pN | apply pD) | exact HB.out))); (case aF => exact (fun k_ hk => ⟨Kd.fresh' (Kd.R_lt (by (with_reducible repeat (first | apply Kd.R_alloc | apply Kd.R_drewN | apply Kd.R_drew)); exact HO_7.out)) k_ hk, Kd.fresh' (Kd.R_lt (by (with_reducible repeat (first | apply Kd.R_alloc | apply Kd.R_drewN | apply Kd.R_drew)); exact HO368.out)) k_ hk⟩)); (case aO => exact (by (with_reducible repeat (first | apply Kd.R_alloc | apply Kd.R_drewN | apply Kd.R_drew)); exact HO_6.out)); (case aS => exact (below_size (by repeat (first | (with_reducible first | exact HB.out | apply pA | apply pN | apply pD) | exact HB.out)))); (case aL => have := LMc15.out; omega); intro v370 w20 ho hb hg hat; rw [← Ny369.out] at ho; have n0_ := Aside0.mk (Kd.R_after (ok := (fun k_ => some k_ ≠ (.slice Ao21 t366.length co21 : Value).ownBlock)) (by (with_reducible repeat (first | apply Kd.R_alloc | apply Kd.R_drewN | apply Kd.R_drew)); exact Kd.R_mono HO_7.out (fun _ hk => ⟨hk.2, hk.1⟩)) hg hat); have n1_ := Aside0.mk (Kd.R_after (ok := (fun k_ => some k_ ≠ (u7 : Value).ownBlock)) (by (with_reducible repeat (first | apply Kd.R_alloc | apply Kd.R_drewN | apply Kd.R_drew)); exact Kd.R_mono HO368.out (fun _ hk => ⟨hk.2, hk.1.2⟩)) hg hat); have n2_ := Aside0.mk (hb); have n3_ := Aside0.mk (ho); clear HO_7; clear HO368; clear HB; clear HO_6; have HO_7 := n0_; have HO368 := n1_; have HB := n2_; have HO371 := n3_; clear n0_ n1_ n2_ n3_; clear ho hb hg hat) | ((with_reducible refine gate_builtin (b := .append) (xs := #[.tmp 43, .tmp 44]) rfl ?_); (try (refine gate_guard (by rfl) ?_; dsimp only)); at_builtin; refine Kd.R_append (Kd.int .u8) (w0 := w) w.heap.size rfl (.tmp 43) (.tmp 44) 22 5 (.int .u8 0) 1 rfl Try.underlying22 info5 rfl (by decide) (by omega) u7 x7_1 126 [.int .u8 126] (fun k_ => some k_ ≠ (.slice Ao21 t366.length co21 : Value).ownBlock ∧ some k_ ≠ (v370 : Value).ownBlock) (fun _ => False) rfl rfl ?aP (fun _ hk => hk.elim) ?aF ?aO ?aB ?aS ?aL ?_; (case aP => exact rfl); (case aB => exact (by repeat (first | (with_reducible first | exact HB.out | apply pA | apply pN | apply pD) | exact HB.out))); (case aF => exact (fun k_ hk => ⟨Kd.fresh' (Kd.R_lt (by (with_reducible repeat (first | apply Kd.R_alloc | apply Kd.R_drewN | apply Kd.R_drew)); exact HO368.out)) k_ hk, Kd.fresh' (Kd.R_lt (by (with_reducible repeat (first | apply Kd.R_alloc | apply Kd.R_drewN | apply Kd.R_drew)); exact HO371.out)) k_ hk⟩)); (case aO => exact (by (with_reducible repeat (first | apply Kd.R_alloc | apply Kd.R_drewN | apply Kd.R_drew)); exact HO_7.out)); (case aS => exact (below_size (by repeat (first | (with_reducible first | exact HB.out | apply pA | apply pN | apply pD) | exact HB.out)))); (case aL => have := LMc16.out; omega); intro v373 w22 ho hb hg hat; rw [← Ny372.out] at ho; have n0_ := Aside0.mk (Kd.R_after (ok := (fun k_ => some k_ ≠ (v370 : Value).ownBlock)) (by (with_reducible repeat (first | apply Kd.R_alloc | apply Kd.R_drewN | apply Kd.R_drew)); exact Kd.R_mono HO368.out (fun _ hk => ⟨hk.2, hk.1⟩)) hg hat); have n1_ := Aside0.mk (Kd.R_after (ok := (fun k_ => some k_ ≠ (.slice Ao21 t366.length co21 : Value).ownBlock)) (by (with_reducible repeat (first | apply Kd.R_alloc | apply Kd.R_drewN | apply Kd.R_drew)); exact Kd.R_mono HO371.out (fun _ hk => ⟨hk.2, hk.1⟩)) hg hat); have n2_ := Aside0.mk (hb); have n3_ := Aside0.mk (ho); clear HO368; clear HO371; clear HB; clear HO_7; have HO368 := n0_; have HO371 := n1_; have HB := n2_; have HO374 := n3_; clear n0_ n1_ n2_ n3_; clear ho hb hg hat; have p375 : 0 ≤ (x8_1 : Int) := of_decide_eq_true (by first | (with_reducible assumption) | assumption); have q375 : x8_1 < (l0.length : Int) := of_decide_eq_true (by first | (with_reducible assumption) | assumption); obtain ⟨ad375, A375_0, c375_0, e375, hx375_0, hl375_0, hi375_0⟩ := at_L2 HR0.out x8_1 p375 q375; obtain rfl : ad365 = ad375 := (by injection e375); replace hx375_0 := (HB.out.cell (World.block_lt_of_cell? w _ hx375_0)).trans hx375_0; have HR375_0 := Aside0.mk hi375_0; have HC375_0 := Aside0.mk hl375_0; clear hi375_0 hl375_0; replace p375 := eq_true p375; replace q375 := eq_true q375) | ((with_reducible refine gate_callee (f := 14) rfl ?_); refine goesL_ (some 52) rfl rfl Try.func14 (by kernel_rfl) rfl #[.slice A375_0 (rd_L2 l0 x8_1).length c375_0, .int .u32 a1] rfl (by (try simp only [List.map_toArray, List.map_cons, List.map_nil]); first | done | rfl | (simp only [List.length_drop, List.length_take]; rfl)) ?_; (with_reducible refine (stuff_Escape.calls kj7 _ _ (rd_L2 l0 x8_1) a1 t376 _ ?side1 ?side2 A17.out).mono ?_); (case side1 => repeat (first | exact (Kd.C_below HR375_0.out HB.out) | (with_reducible refine Kd.C_alloc ?_ _) | (with_reducible refine Kd.C_drewN ?_ _) | (with_reducible refine Kd.C_drew ?_))); (case side2 => exact HC375_0.out); rintro e w23 ⟨v377, rfl, ho0, hb⟩; refine ⟨_, rfl, ?_⟩; have n0_ := Aside0.mk (Kd.R_elder' (by (with_reducible repeat (first | apply Kd.R_alloc | apply Kd.R_drewN | apply Kd.R_drew)); exact HO368.out) (Kd.R_base ho0) hb); have n1_ := Aside0.mk (Kd.R_elder' (by (with_reducible repeat (first | apply Kd.R_alloc | apply Kd.R_drewN | apply Kd.R_drew)); exact HO371.out) (Kd.R_base ho0) hb); have n2_ := Aside0.mk (Kd.R_elder' (by (with_reducible repeat (first | apply Kd.R_alloc | apply Kd.R_drewN | apply Kd.R_drew)); exact HO374.out) (Kd.R_base ho0) hb); have n3_ := Aside0.mk (Kd.R_lower (Kd.R_new' (Kd.R_new' (Kd.R_new' ho0 (Kd.R_lt (by (with_reducible repeat (first | apply Kd.R_alloc | apply Kd.R_drewN | apply Kd.R_drew)); exact HO368.out))) (Kd.R_lt (by (with_reducible repeat (first | apply Kd.R_alloc | apply Kd.R_drewN | apply Kd.R_drew)); exact HO371.out))) (Kd.R_lt (by (with_reducible repeat (first | apply Kd.R_alloc | apply Kd.R_drewN | apply Kd.R_drew)); exact HO374.out))) (below_size (by repeat (first | (with_reducible first | exact HB.out | apply pA | apply pN | apply pD) | exact HB.out)))); have n4_ := Aside0.mk (below_step (by repeat (first | (with_reducible first | exact HB.out | apply pA | apply pN | apply pD) | exact HB.out)) hb); clear HO368; clear HO371; clear HO374; clear HB; have HO368 := n0_; have HO371 := n1_; have HO374 := n2_; have HO378 := n3_; have HB := n4_; clear n0_ n1_ n2_ n3_ n4_; (try clear hb); (try clear hb2); (try clear hk); (try clear hi); (try clear ho0); obtain ⟨Ao25, co25, eo25⟩ := Kd.R_slice HO378.out; subst eo25) | ((with_reducible refine gate_builtin (b := .append) (xs := #[.tmp 46, .tmp 52]) rfl ?_); (try (refine gate_guard (by rfl) ?_; dsimp only)); at_builtin; refine Kd.R_append_rows (Kd.int .u8) (w0 := w) w.heap.size rfl (.tmp 46) (.tmp 52) 22 5 (.int .u8 0) 1 rfl Try.underlying22 info5 rfl (by decide) (by omega) v373 y372 t376 _ _ _ (fun k_ => some k_ ≠ (.slice Ao21 t366.length co21 : Value).ownBlock ∧ some k_ ≠ (v370 : Value).ownBlock ∧ some k_ ≠ (.slice Ao25 t376.length co25 : Value).ownBlock) (fun _ => False) rfl rfl ?aO ?aR (fun _ _ h => h) (fun _ h => h.elim) ?aF ?aB ?aS ?aL ?_; (case aR => repeat (first | exact (Kd.R_reads' HO378.out).2.2 | (with_reducible refine Kd.C_alloc ?_ _) | (with_reducible refine Kd.C_drewN ?_ _) | (with_reducible refine Kd.C_drew ?_))); (case aB => exact (by repeat (first | (with_reducible first | exact HB.out | apply pA | apply pN | apply pD) | exact HB.out))); (case aF => exact (fun k_ hk => ⟨Kd.fresh' (Kd.R_lt (by (with_reducible repeat (first | apply Kd.R_alloc | apply Kd.R_drewN | apply Kd.R_drew)); exact HO368.out)) k_ hk, Kd.fresh' (Kd.R_lt (by (with_reducible repeat (first | apply Kd.R_alloc | apply Kd.R_drewN | apply Kd.R_drew)); exact HO371.out)) k_ hk, Kd.fresh' (Kd.R_lt (by (with_reducible repeat (first | apply Kd.R_alloc | apply Kd.R_drewN | apply Kd.R_drew)); exact HO378.out)) k_ hk⟩)); (case aO => exact (by (with_reducible repeat (first | apply Kd.R_alloc | apply Kd.R_drewN | apply Kd.R_drew)); exact Kd.R_mono HO374.out (fun _ hk => ⟨hk.1.1, ⟨hk.1.2, hk.2⟩⟩))); (case aS => exact (below_size (by repeat (first | (with_reducible first | exact HB.out | apply pA | apply pN | apply pD) | exact HB.out)))); (case aL => have := LMc18.out; omega); intro v380 w24 ho hb hg hat; rw [← Ny379.out] at ho; have n0_ := Aside0.mk (Kd.R_after (ok := (fun k_ => some k_ ≠ (v370 : Value).ownBlock ∧ some k_ ≠ (.slice Ao25 t376.length co25 : Value).ownBlock)) (by (with_reducible repeat (first | apply Kd.R_alloc | apply Kd.R_drewN | apply Kd.R_drew)); exact Kd.R_mono HO368.out (fun _ hk => ⟨⟨hk.1.1, hk.2⟩, hk.1.2⟩)) hg hat); have n1_ := Aside0.mk (Kd.R_after (ok := (fun k_ => some k_ ≠ (.slice Ao21 t366.length co21 : Value).ownBlock ∧ some k_ ≠ (.slice Ao25 t376.length co25 : Value).ownBlock)) (by (with_reducible repeat (first | apply Kd.R_alloc | apply Kd.R_drewN | apply Kd.R_drew)); exact Kd.R_mono HO371.out (fun _ hk => ⟨⟨hk.1.1, hk.2⟩, hk.1.2⟩)) hg hat); have n2_ := Aside0.mk (Kd.R_after (ok := (fun k_ => some k_ ≠ (.slice Ao21 t366.length co21 : Value).ownBlock ∧ some k_ ≠ (v370 : Value).ownBlock)) (by (with_reducible repeat (first | apply Kd.R_alloc | apply Kd.R_drewN | apply Kd.R_drew)); exact Kd.R_mono HO378.out (fun _ hk => ⟨⟨hk.1.1.2, hk.1.2⟩, hk.2⟩)) hg hat); have n3_ := Aside0.mk (hb); have n4_ := Aside0.mk (ho); clear HO368; clear HO371; clear HO378; clear HB; clear HO374; have HO368 := n0_; have HO371 := n1_; have HO378 := n2_; have HB := n3_; have HO381 := n4_; clear n0_ n1_ n2_ n3_ n4_; clear ho hb hg hat))
                          go_roundg kj7
                          case measure => have := HK1.out; have := HJ7.out; omega
                          case rel => exact ⟨(y369), (y379), (wrap64 (x8_1 + 1)), (by first | rfl | (simp; done) | (simp [*]; done)), H', ⟨by have := HK1.out; have := HJ7.out; omega⟩, ⟨by (with_reducible repeat (first | apply Kd.R_alloc | apply Kd.R_drewN | apply Kd.R_drew)); exact Kd.R_mono HO371.out (fun _ hk => hk.2)⟩, ⟨by (with_reducible repeat (first | apply Kd.R_alloc | apply Kd.R_drewN | apply Kd.R_drew)); exact Kd.R_mono HO381.out (fun _ hk => hk.2.1)⟩, ⟨by repeat (first | (with_reducible first | exact HB.out | apply pA | apply pN | apply pD) | exact HB.out)⟩⟩
                        · rw [if_neg c18] at H
                          exact absurd H (by simp)
                      · rw [if_neg c16] at H
                        exact absurd H (by simp)
                    · rw [if_neg c15] at H
                      exact absurd H (by simp)
                  · rw [if_neg c13] at H
                    exact absurd H (by simp)
                · rw [if_neg c12] at H
                  exact absurd H (by simp)
        · rw [if_neg c7] at H
          have c7b0 : decide (x8_1 < (l0.length : Int)) = false := decide_eq_false c7
          clear c7
          by_cases c26 : x7_1.length < 140737488355328
          · rw [if_pos c26] at H
            have LMc26 := Aside0.mk c26
            clear c26
            obtain ⟨y382, hy382⟩ : ∃ y_ : List Int, y_ = (x7_1 ++ [126]) := ⟨_, rfl⟩
            replace H : (if t362 = true then ((stuff_All.f k1 x6_1).bind fun t385 => ((portreeveref07_Frames.f k1 t385 l0).bind fun t388 => (if t388 = true then ((stuff_All.f k1 y382).bind fun t389 => ((portreeveref07_Frames.f k1 t389 l0).bind fun t392 => (some t392))) else (some false)))) else (some false)) = some r := by first | (rw [hy382]; with_reducible exact H) | (have H2_ := (Option.bind_some _ _).symm.trans H; rw [hy382]; with_reducible exact H2_) | (have H2_ := (Option.bind_some _ _).symm.trans H; with_reducible exact H2_) | with_reducible exact H | (rw [hy382]; exact H) | exact H
            have Ny382 := Aside0.mk hy382
            clear hy382
            by_cases c27 : t362 = true
            · subst c27
              have H1 : ((stuff_All.f k1 x6_1).bind fun t385 => ((portreeveref07_Frames.f k1 t385 l0).bind fun t388 => (if t388 = true then ((stuff_All.f k1 y382).bind fun t389 => ((portreeveref07_Frames.f k1 t389 l0).bind fun t392 => (some t392))) else (some false)))) = some r := by rw [if_pos rfl] at H; exact H
              clear H
              have H := H1
              clear H1
              replace H := Option.bind_eq_some_iff.mp H
              obtain ⟨t385, A280, H⟩ := H
              replace H : ((portreeveref07_Frames.f k1 t385 l0).bind fun t388 => (if t388 = true then ((stuff_All.f k1 y382).bind fun t389 => ((portreeveref07_Frames.f k1 t389 l0).bind fun t392 => (some t392))) else (some false))) = some r := H
              have A28 := Aside0.mk A280
              clear A280
              replace H := Option.bind_eq_some_iff.mp H
              obtain ⟨t388, A290, H⟩ := H
              replace H : (if t388 = true then ((stuff_All.f k1 y382).bind fun t389 => ((portreeveref07_Frames.f k1 t389 l0).bind fun t392 => (some t392))) else (some false)) = some r := H
              have A29 := Aside0.mk A290
              clear A290
              by_cases c30 : t388 = true
              · subst c30
                have H1 : ((stuff_All.f k1 y382).bind fun t389 => ((portreeveref07_Frames.f k1 t389 l0).bind fun t392 => (some t392))) = some r := by rw [if_pos rfl] at H; exact H
                clear H
                have H := H1
                clear H1
                replace H := Option.bind_eq_some_iff.mp H
                obtain ⟨t389, A310, H⟩ := H
                replace H : ((portreeveref07_Frames.f k1 t389 l0).bind fun t392 => (some t392)) = some r := H
                have A31 := Aside0.mk A310
                clear A310
                replace H := Option.bind_eq_some_iff.mp H
                obtain ⟨t392, A320, H⟩ := H
                replace H : (some t392) = some r := H
                have A32 := Aside0.mk A320
                clear A320
                clear hlaw_
                obtain rfl := Option.some.inj H
                go_wp2_with (first | ((with_reducible refine gate_builtin (b := .append) (xs := #[.tmp 54, .tmp 55]) rfl ?_); (try (refine gate_guard (by rfl) ?_; dsimp only)); at_builtin; refine Kd.R_append (Kd.int .u8) (w0 := w) w.heap.size rfl (.tmp 54) (.tmp 55) 22 5 (.int .u8 0) 1 rfl Try.underlying22 info5 rfl (by decide) (by omega) u7 x7_1 126 [.int .u8 126] (fun k_ => some k_ ≠ (u6 : Value).ownBlock) (fun _ => False) rfl rfl ?aP (fun _ hk => hk.elim) ?aF ?aO ?aB ?aS ?aL ?_; (case aP => exact rfl); (case aB => exact (by repeat (first | (with_reducible first | exact HB.out | apply pA | apply pN | apply pD) | exact HB.out))); (case aF => exact (fun k_ hk => Kd.fresh' (Kd.R_lt (by (with_reducible repeat (first | apply Kd.R_alloc | apply Kd.R_drewN | apply Kd.R_drew)); exact HO_6.out)) k_ hk)); (case aO => exact (by (with_reducible repeat (first | apply Kd.R_alloc | apply Kd.R_drewN | apply Kd.R_drew)); exact HO_7.out)); (case aS => exact (below_size (by repeat (first | (with_reducible first | exact HB.out | apply pA | apply pN | apply pD) | exact HB.out)))); (case aL => have := LMc26.out; omega); intro v383 w33 ho hb hg hat; rw [← Ny382.out] at ho; have n0_ := Aside0.mk (Kd.R_after (ok := (fun _ => True)) (by (with_reducible repeat (first | apply Kd.R_alloc | apply Kd.R_drewN | apply Kd.R_drew)); exact Kd.R_mono HO_6.out (fun _ hk => ⟨trivial, hk⟩)) hg hat); have n1_ := Aside0.mk (hb); have n2_ := Aside0.mk (ho); clear HO_6; clear HB; clear HO_7; have HO_6 := n0_; have HB := n1_; have HO384 := n2_; clear n0_ n1_ n2_; clear ho hb hg hat; obtain ⟨Ao34, co34, eo34⟩ := Kd.R_slice HO_6.out; subst eo34) | (go_at_call 19; (with_reducible refine (stuff_All.calls k1 _ _ x6_1 t385 _ ?side1 ?side2 A28.out).mono ?_); (case side1 => repeat (first | exact (Kd.R_reads' HO_6.out).2.2 | (with_reducible refine Kd.C_alloc ?_ _) | (with_reducible refine Kd.C_drewN ?_ _) | (with_reducible refine Kd.C_drew ?_))); (case side2 => exact (Kd.R_reads' HO_6.out).2.1); rintro e w35 ⟨v386, rfl, ho0, hb⟩; have n0_ := Aside0.mk (Kd.R_below (by (with_reducible repeat (first | apply Kd.R_alloc | apply Kd.R_drewN | apply Kd.R_drew)); exact HO_6.out) hb); have n1_ := Aside0.mk (Kd.R_below (by (with_reducible repeat (first | apply Kd.R_alloc | apply Kd.R_drewN | apply Kd.R_drew)); exact HO384.out) hb); have n2_ := Aside0.mk (Kd.S_lower (Kd.S_new' (Kd.S_new' ho0 (Kd.R_lt (by (with_reducible repeat (first | apply Kd.R_alloc | apply Kd.R_drewN | apply Kd.R_drew)); exact HO_6.out))) (Kd.R_lt (by (with_reducible repeat (first | apply Kd.R_alloc | apply Kd.R_drewN | apply Kd.R_drew)); exact HO384.out))) (below_size (by repeat (first | (with_reducible first | exact HB.out | apply pA | apply pN | apply pD) | exact HB.out)))); have n3_ := Aside0.mk (below_step (by repeat (first | (with_reducible first | exact HB.out | apply pA | apply pN | apply pD) | exact HB.out)) hb); clear HO_6; clear HO384; clear HB; have HO_6 := n0_; have HO384 := n1_; have HO387 := n2_; have HB := n3_; clear n0_ n1_ n2_ n3_; (try clear hb); (try clear hb2); (try clear hk); (try clear hi); (try clear ho0); obtain ⟨Ao36, co36, eo36⟩ := Kd.S_slice HO387.out; subst eo36) | (go_at_call 18; (with_reducible refine (portreeveref07_Frames.calls k1 _ _ t385 _ _ l0 true _ ?side1 ?side2 ?side3 ?side4 A29.out).mono ?_); (case side1 => repeat (first | exact (Kd.S_reads' HO387.out).2.2 | (with_reducible refine Kd.C_alloc ?_ _) | (with_reducible refine Kd.C_drewN ?_ _) | (with_reducible refine Kd.C_drew ?_))); (case side2 => exact (Kd.S_reads' HO387.out).2.1); (case side3 => repeat (first | exact (Kd.C_below HR0.out HB.out) | (with_reducible refine Kd.C_alloc ?_ _) | (with_reducible refine Kd.C_drewN ?_ _) | (with_reducible refine Kd.C_drew ?_))); (case side4 => exact HC0.out); rintro e w' ⟨rfl, ⟨nd, rfl⟩⟩; obtain ⟨Ao37, co37, eo37⟩ := Kd.R_slice HO384.out; subst eo37) | (go_at_call 19; (with_reducible refine (stuff_All.calls k1 _ _ y382 t389 _ ?side1 ?side2 A31.out).mono ?_); (case side1 => repeat (first | exact (Kd.R_reads' HO384.out).2.2 | (with_reducible refine Kd.C_alloc ?_ _) | (with_reducible refine Kd.C_drewN ?_ _) | (with_reducible refine Kd.C_drew ?_))); (case side2 => exact (Kd.R_reads' HO384.out).2.1); rintro e w38 ⟨v390, rfl, ho0, hb⟩; have n0_ := Aside0.mk (Kd.R_below (by (with_reducible repeat (first | apply Kd.R_alloc | apply Kd.R_drewN | apply Kd.R_drew)); exact HO_6.out) hb); have n1_ := Aside0.mk (Kd.R_below (by (with_reducible repeat (first | apply Kd.R_alloc | apply Kd.R_drewN | apply Kd.R_drew)); exact HO384.out) hb); have n2_ := Aside0.mk (Kd.S_elder' (by (with_reducible repeat (first | apply Kd.S_alloc | apply Kd.S_drewN | apply Kd.S_drew)); exact HO387.out) (Kd.S_base ho0) hb); have n3_ := Aside0.mk (Kd.S_lower (Kd.S_new' (Kd.S_new' (Kd.S_new' ho0 (Kd.R_lt (by (with_reducible repeat (first | apply Kd.R_alloc | apply Kd.R_drewN | apply Kd.R_drew)); exact HO_6.out))) (Kd.R_lt (by (with_reducible repeat (first | apply Kd.R_alloc | apply Kd.R_drewN | apply Kd.R_drew)); exact HO384.out))) (Kd.S_lt (by (with_reducible repeat (first | apply Kd.S_alloc | apply Kd.S_drewN | apply Kd.S_drew)); exact HO387.out))) (below_size (by repeat (first | (with_reducible first | exact HB.out | apply pA | apply pN | apply pD) | exact HB.out)))); have n4_ := Aside0.mk (below_step (by repeat (first | (with_reducible first | exact HB.out | apply pA | apply pN | apply pD) | exact HB.out)) hb); clear HO_6; clear HO384; clear HO387; clear HB; have HO_6 := n0_; have HO384 := n1_; have HO387 := n2_; have HO391 := n3_; have HB := n4_; clear n0_ n1_ n2_ n3_ n4_; (try clear hb); (try clear hb2); (try clear hk); (try clear hi); (try clear ho0); obtain ⟨Ao39, co39, eo39⟩ := Kd.S_slice HO391.out; subst eo39) | (go_at_call 18; (with_reducible refine (portreeveref07_Frames.calls k1 _ _ t389 _ _ l0 t392 _ ?side1 ?side2 ?side3 ?side4 A32.out).mono ?_); (case side1 => repeat (first | exact (Kd.S_reads' HO391.out).2.2 | (with_reducible refine Kd.C_alloc ?_ _) | (with_reducible refine Kd.C_drewN ?_ _) | (with_reducible refine Kd.C_drew ?_))); (case side2 => exact (Kd.S_reads' HO391.out).2.1); (case side3 => repeat (first | exact (Kd.C_below HR0.out HB.out) | (with_reducible refine Kd.C_alloc ?_ _) | (with_reducible refine Kd.C_drewN ?_ _) | (with_reducible refine Kd.C_drew ?_))); (case side4 => exact HC0.out); rintro e w' ⟨rfl, ⟨nd, rfl⟩⟩))
                go_ret
                exact ⟨by first | rfl | (simp [errW_none, errW_some] <;> rfl) | (simp [*, errW_none, errW_some] <;> rfl), by repeat (first | (with_reducible first | exact HB.out | apply pA | apply pN | apply pD) | exact HB.out)⟩
              · replace c30 := Bool.eq_false_iff.mpr c30
                subst c30
                have H1 : (some false) = some r := by rw [if_neg (show ¬ (false = true) by decide)] at H; exact H
                clear H
                have H := H1
                clear H1
                exact absurd ((Option.some.inj H).trans hlaw_.out) (by decide)
            · replace c27 := Bool.eq_false_iff.mpr c27
              subst c27
              have H1 : (some false) = some r := by rw [if_neg (show ¬ (false = true) by decide)] at H; exact H
              clear H
              have H := H1
              clear H1
              exact absurd ((Option.some.inj H).trans hlaw_.out) (by decide)
          · rw [if_neg c26] at H
            exact absurd H (by simp)

/-! ### portreevelaw07_StuffLong: function 7 -/
mutual
def portreevelaw07_StuffLong.l0 : Nat → List Int → Int → Int → Bool → Int → Int → Option (Bool)
  | 0, _, _, _, _, _, _ => none
  | k + 1, x0, x1, x2, x7, x8, x9 => if x9 < (x0.length : Int) then (if 0 ≤ x9 then (if (rd x0 x9) = 126 then (portreevelaw07_StuffLong.j1 k x0 x1 x2 x7 x8 x9 true) else (if (rd x0 x9) = 125 then (portreevelaw07_StuffLong.j1 k x0 x1 x2 x7 x8 x9 true) else (if (rd x0 x9) < 32 then (if 0 ≤ (rd x0 x9) then (portreevelaw07_StuffLong.j1 k x0 x1 x2 x7 x8 x9 ((Int.tmod (shr .u32 x1 (rd x0 x9)) 2) == 1)) else (none)) else (portreevelaw07_StuffLong.j1 k x0 x1 x2 x7 x8 x9 false)))) else (none)) else ((stuff_Escape.f k x0 4294967295).bind fun t398 => (portreevelaw07_StuffLong.l1 k x0 x1 x2 x7 x8 t398 0))
def portreevelaw07_StuffLong.j1 : Nat → List Int → Int → Int → Bool → Int → Int → Bool → Option (Bool)
  | 0, _, _, _, _, _, _, _ => none
  | k + 1, x0, x1, x2, x7, x8, x9, x51 => if x51 = true then (portreevelaw07_StuffLong.l0 k x0 x1 x2 x7 (wrap64 (x8 + 1)) (wrap64 (x9 + 1))) else (portreevelaw07_StuffLong.l0 k x0 x1 x2 x7 x8 (wrap64 (x9 + 1)))
def portreevelaw07_StuffLong.l1 : Nat → List Int → Int → Int → Bool → Int → List Int → Int → Option (Bool)
  | 0, _, _, _, _, _, _, _ => none
  | k + 1, x0, x1, x2, x7, x8, x10, x11 => if x11 < (x10.length : Int) then (if 0 ≤ x11 then (if (rd x10 x11) < 32 then (some false) else (portreevelaw07_StuffLong.l1 k x0 x1 x2 x7 x8 x10 (wrap64 (x11 + 1)))) else (none)) else (if x7 = true then ((stuff_Escape.f k x0 x1).bind fun t402 => (if (t402.length : Int) = (wrap64 ((x0.length : Int) + x8)) then ((stuff_Escape.f k x0 (Go.bits .or .u32 x1 x2)).bind fun t405 => (some (decide ((t405.length : Int) ≥ (wrap64 ((x0.length : Int) + x8)))))) else (some false))) else (some false))
end
def portreevelaw07_StuffLong.f (k : Nat) (l0 : List Int) (a1 : Int) (a2 : Int) : Option (Bool) := (portreevelaw07_shown.f k).bind fun t393 => (if (l0.length : Int) > 1000 then (some t393) else (portreevelaw07_StuffLong.l0 k l0 a1 a2 t393 0 0))
theorem portreevelaw07_StuffLong.mono_l : ∀ k, (∀ y0 y1 y2 y3 y4 y5, LeO (portreevelaw07_StuffLong.l0 k y0 y1 y2 y3 y4 y5) (portreevelaw07_StuffLong.l0 (k + 1) y0 y1 y2 y3 y4 y5)) ∧ (∀ y0 y1 y2 y3 y4 y5 y6, LeO (portreevelaw07_StuffLong.j1 k y0 y1 y2 y3 y4 y5 y6) (portreevelaw07_StuffLong.j1 (k + 1) y0 y1 y2 y3 y4 y5 y6)) ∧ (∀ y0 y1 y2 y3 y4 y5 y6, LeO (portreevelaw07_StuffLong.l1 k y0 y1 y2 y3 y4 y5 y6) (portreevelaw07_StuffLong.l1 (k + 1) y0 y1 y2 y3 y4 y5 y6))
  | 0 => ⟨fun _ _ _ _ _ _ r h => by simp [portreevelaw07_StuffLong.l0] at h, fun _ _ _ _ _ _ _ r h => by simp [portreevelaw07_StuffLong.j1] at h, fun _ _ _ _ _ _ _ r h => by simp [portreevelaw07_StuffLong.l1] at h⟩
  | k + 1 => by
    obtain ⟨ih0, ih1, ih2⟩ := portreevelaw07_StuffLong.mono_l k
    refine ⟨?_, ?_, ?_⟩
    · intro y0 y1 y2 y3 y4 y5
      unfold portreevelaw07_StuffLong.l0
      repeat' first
      | (with_reducible exact ih0 _ _ _ _ _ _)
      | (with_reducible exact ih1 _ _ _ _ _ _ _)
      | (with_reducible exact ih2 _ _ _ _ _ _ _)
      | (with_reducible exact portreevelaw07_shown.mono _)
      | (with_reducible exact stuff_Escape.mono _ _ _)
      | (with_reducible exact LeO.refl _)
      | (with_reducible exact LeO.none _)
      | (with_reducible refine LeO.ite ?_ ?_)
      | (with_reducible refine LeO.bind ?_ (fun _ => ?_))
      | exact ih0 _ _ _ _ _ _
      | exact ih1 _ _ _ _ _ _ _
      | exact ih2 _ _ _ _ _ _ _
      | exact portreevelaw07_shown.mono _
      | exact stuff_Escape.mono _ _ _
      | exact LeO.none _
      | refine LeO.ite ?_ ?_
      | refine LeO.bind ?_ (fun _ => ?_)
    · intro y0 y1 y2 y3 y4 y5 y6
      unfold portreevelaw07_StuffLong.j1
      repeat' first
      | (with_reducible exact ih0 _ _ _ _ _ _)
      | (with_reducible exact ih1 _ _ _ _ _ _ _)
      | (with_reducible exact ih2 _ _ _ _ _ _ _)
      | (with_reducible exact portreevelaw07_shown.mono _)
      | (with_reducible exact stuff_Escape.mono _ _ _)
      | (with_reducible exact LeO.refl _)
      | (with_reducible exact LeO.none _)
      | (with_reducible refine LeO.ite ?_ ?_)
      | (with_reducible refine LeO.bind ?_ (fun _ => ?_))
      | exact ih0 _ _ _ _ _ _
      | exact ih1 _ _ _ _ _ _ _
      | exact ih2 _ _ _ _ _ _ _
      | exact portreevelaw07_shown.mono _
      | exact stuff_Escape.mono _ _ _
      | exact LeO.none _
      | refine LeO.ite ?_ ?_
      | refine LeO.bind ?_ (fun _ => ?_)
    · intro y0 y1 y2 y3 y4 y5 y6
      unfold portreevelaw07_StuffLong.l1
      repeat' first
      | (with_reducible exact ih0 _ _ _ _ _ _)
      | (with_reducible exact ih1 _ _ _ _ _ _ _)
      | (with_reducible exact ih2 _ _ _ _ _ _ _)
      | (with_reducible exact portreevelaw07_shown.mono _)
      | (with_reducible exact stuff_Escape.mono _ _ _)
      | (with_reducible exact LeO.refl _)
      | (with_reducible exact LeO.none _)
      | (with_reducible refine LeO.ite ?_ ?_)
      | (with_reducible refine LeO.bind ?_ (fun _ => ?_))
      | exact ih0 _ _ _ _ _ _
      | exact ih1 _ _ _ _ _ _ _
      | exact ih2 _ _ _ _ _ _ _
      | exact portreevelaw07_shown.mono _
      | exact stuff_Escape.mono _ _ _
      | exact LeO.none _
      | refine LeO.ite ?_ ?_
      | refine LeO.bind ?_ (fun _ => ?_)
theorem portreevelaw07_StuffLong.mono : ∀ a0 a1 a2 k, LeO (portreevelaw07_StuffLong.f k a0 a1 a2) (portreevelaw07_StuffLong.f (k + 1) a0 a1 a2) := by
  intro a0 a1 a2 k
  obtain ⟨ih0, ih1, ih2⟩ := portreevelaw07_StuffLong.mono_l k
  unfold portreevelaw07_StuffLong.f
  repeat' first
      | (with_reducible exact ih0 _ _ _ _ _ _)
      | (with_reducible exact ih1 _ _ _ _ _ _ _)
      | (with_reducible exact ih2 _ _ _ _ _ _ _)
      | (with_reducible exact portreevelaw07_shown.mono _)
      | (with_reducible exact stuff_Escape.mono _ _ _)
      | (with_reducible exact LeO.refl _)
      | (with_reducible exact LeO.none _)
      | (with_reducible refine LeO.ite ?_ ?_)
      | (with_reducible refine LeO.bind ?_ (fun _ => ?_))
      | exact ih0 _ _ _ _ _ _
      | exact ih1 _ _ _ _ _ _ _
      | exact ih2 _ _ _ _ _ _ _
      | exact portreevelaw07_shown.mono _
      | exact stuff_Escape.mono _ _ _
      | exact LeO.none _
      | refine LeO.ite ?_ ?_
      | refine LeO.bind ?_ (fun _ => ?_)
set_option maxHeartbeats 8000000 in
set_option maxRecDepth 100000 in
theorem portreevelaw07_StuffLong.calls (k : Nat) (A0 : Option Addr) (c0 : Nat) (l0 : List Int) (a1 : Int) (a2 : Int) (r : Bool) (w : World) (hlaw_ : Aside0 (r = true)) (hr0 : Kd.C (Kd.int .u8) w A0 l0.length l0) (hc0 : l0.length ≤ c0) (h : portreevelaw07_StuffLong.f k l0 a1 a2 = some r) :
    Calls Try.prog 7 #[.slice A0 l0.length c0, .int .u32 a1, .int .u32 a2] w fun e w' => e = .returned (.bool r) ∧ Below w.heap.size w w' := by
  have HR0 := Aside0.mk hr0
  have HC0 := Aside0.mk hc0
  clear hr0 hc0
  have HB := Aside0.mk (Below.refl w.heap.size w)
  have H : ((portreevelaw07_shown.f k).bind fun t393 => (if (l0.length : Int) > 1000 then (some t393) else (portreevelaw07_StuffLong.l0 k l0 a1 a2 t393 0 0))) = some r := h
  clear h
  replace H := Option.bind_eq_some_iff.mp H
  obtain ⟨t393, A40, H⟩ := H
  replace H : (if (l0.length : Int) > 1000 then (some t393) else (portreevelaw07_StuffLong.l0 k l0 a1 a2 t393 0 0)) = some r := H
  have A4 := Aside0.mk A40
  clear A40
  by_cases c5 : (l0.length : Int) > 1000
  · rw [if_pos c5] at H
    have c5b0 : decide (1000 < (l0.length : Int)) = true := decide_eq_true c5
    have c5b1 : decide (1000 < l0.length) = true := decide_eq_true (by omega)
    clear c5
    clear hlaw_
    obtain rfl := Option.some.inj H
    go_enter Try.func7, Try.ntmps7
    go_wp2_with (first | ((with_reducible refine gate_callee (f := 10) rfl ?_); refine goesL_ (some 12) rfl rfl Try.func10 (by kernel_rfl) rfl #[] rfl (by (try simp only [List.map_toArray, List.map_cons, List.map_nil]); first | done | rfl | (simp only [List.length_drop, List.length_take]; rfl)) ?_; (with_reducible refine (portreevelaw07_shown.calls k  t393 _ A4.out).mono ?_); rintro e w6 ⟨rfl, hb⟩; refine ⟨_, rfl, ?_⟩; have n0_ := Aside0.mk (below_step (by repeat (first | (with_reducible first | exact HB.out | apply pA | apply pN | apply pD) | exact HB.out)) hb); clear HB; have HB := n0_; clear n0_; (try clear hb); (try clear hb2); (try clear hk); (try clear hi)))
    go_ret
    exact ⟨by first | rfl | (simp [errW_none, errW_some] <;> rfl) | (simp [*, errW_none, errW_some] <;> rfl), by repeat (first | (with_reducible first | exact HB.out | apply pA | apply pN | apply pD) | exact HB.out)⟩
  · rw [if_neg c5] at H
    have c5b0 : decide (1000 < (l0.length : Int)) = false := decide_eq_false c5
    have c5b1 : decide (1000 < l0.length) = false := decide_eq_false (by omega)
    clear c5
    have H' := Aside0.mk H
    clear H
    go_enter Try.func7, Try.ntmps7
    go_wp2_with (first | ((with_reducible refine gate_callee (f := 10) rfl ?_); refine goesL_ (some 12) rfl rfl Try.func10 (by kernel_rfl) rfl #[] rfl (by (try simp only [List.map_toArray, List.map_cons, List.map_nil]); first | done | rfl | (simp only [List.length_drop, List.length_take]; rfl)) ?_; (with_reducible refine (portreevelaw07_shown.calls k  t393 _ A4.out).mono ?_); rintro e w7 ⟨rfl, hb⟩; refine ⟨_, rfl, ?_⟩; have n0_ := Aside0.mk (below_step (by repeat (first | (with_reducible first | exact HB.out | apply pA | apply pN | apply pD) | exact HB.out)) hb); clear HB; have HB := n0_; clear n0_; (try clear hb); (try clear hb2); (try clear hk); (try clear hi)))
    go_loopg [8, 9] k (fun kq v8 v9 w' => ∃ (x8_1 : Int) (x9_1 : Int), v8 = .int .i64 x8_1 ∧ v9 = .int .i64 x9_1 ∧ Aside0 (portreevelaw07_StuffLong.l0 kq l0 a1 a2 t393 x8_1 x9_1 = some r) ∧ Aside0 (kq ≤ k) ∧ Aside0 (Below w.heap.size w w'))
    case atStart => exact ⟨(0), (0), (by first | rfl | (simp; done) | (simp [*]; done)), (by first | rfl | (simp; done) | (simp [*]; done)), H', ⟨Nat.le_refl _⟩, ⟨by repeat (first | (with_reducible first | exact HB.out | apply pA | apply pN | apply pD) | exact HB.out)⟩⟩
    case round =>
      clear H'
      try clear c1
      try clear p2
      try clear c5
      try clear c5b0
      try clear c5b1
      try clear c7
      obtain ⟨x8_1, x9_1, rfl, rfl, HA, HK1, HB⟩ := hrel
      cases gk with
      | zero => exact absurd HA.out (by simp [portreevelaw07_StuffLong.l0])
      | succ k1 =>
        have H := HA.out
        clear HA
        simp only [portreevelaw07_StuffLong.l0] at H
        by_cases c8 : x9_1 < (l0.length : Int)
        · rw [if_pos c8] at H
          have c8b0 : decide (x9_1 < (l0.length : Int)) = true := decide_eq_true c8
          clear c8
          have HC9 := Aside0.mk H
          clear H
          go_upto_region 8 with (fail)
          go_cut [51] (fun v51 wc => ∃ (kq : Nat) (x51_8 : Bool), v51 = .bool x51_8 ∧ Aside0 (portreevelaw07_StuffLong.j1 kq l0 a1 a2 t393 x8_1 x9_1 x51_8 = some r) ∧ Aside0 (kq ≤ k1) ∧ Aside0 (Below w.heap.size w wc))
          case first =>
            have H := HC9.out
            clear HC9
            by_cases c10 : 0 ≤ x9_1
            · rw [if_pos c10] at H
              have c10b0 : decide (0 ≤ x9_1) = true := decide_eq_true c10
              clear c10
              (first | rw [c10b0] | (simp only [i64_w, i32_w]; rw [c10b0]) | skip)
              by_cases c11 : (rd l0 x9_1) = 126
              · rw [if_pos c11] at H
                have c11b0 : ((rd l0 x9_1) == 126) = true := beq_iff_eq.mpr c11
                have c11b1 : ((rd l0 x9_1) != 126) = false := bne_eq_false_iff_eq.mpr c11
                clear c11
                have H' := Aside0.mk H
                clear H
                have p394 : 0 ≤ (x9_1 : Int) := of_decide_eq_true (by first | (with_reducible assumption) | assumption)
                have q394 : x9_1 < (l0.length : Int) := of_decide_eq_true (by first | (with_reducible assumption) | assumption)
                obtain ⟨ad394, e394, hx394_0⟩ := Kd.at_int HR0.out x9_1 p394 q394
                cases e394
                replace hx394_0 := (HB.out.cell (World.block_lt_of_cell? w _ hx394_0)).trans hx394_0
                replace p394 := eq_true p394
                replace q394 := eq_true q394
                go_wp2
                go_meet
                case rel => exact ⟨_, (true), (by first | rfl | (simp; done) | (simp [*]; done)), H', ⟨by have := HK1.out; first | omega | exact Nat.le_refl _⟩, ⟨by repeat (first | (with_reducible first | exact HB.out | apply pA | apply pN | apply pD) | exact HB.out)⟩⟩
              · rw [if_neg c11] at H
                have c11b0 : ((rd l0 x9_1) == 126) = false := beq_eq_false_iff_ne.mpr c11
                have c11b1 : ((rd l0 x9_1) != 126) = true := bne_iff_ne.mpr c11
                by_cases c12 : (rd l0 x9_1) = 125
                · rw [if_pos c12] at H
                  have c12b0 : ((rd l0 x9_1) == 125) = true := beq_iff_eq.mpr c12
                  have c12b1 : ((rd l0 x9_1) != 125) = false := bne_eq_false_iff_eq.mpr c12
                  clear c12
                  have H' := Aside0.mk H
                  clear H
                  have p394 : 0 ≤ (x9_1 : Int) := of_decide_eq_true (by first | (with_reducible assumption) | assumption)
                  have q394 : x9_1 < (l0.length : Int) := of_decide_eq_true (by first | (with_reducible assumption) | assumption)
                  obtain ⟨ad394, e394, hx394_0⟩ := Kd.at_int HR0.out x9_1 p394 q394
                  cases e394
                  replace hx394_0 := (HB.out.cell (World.block_lt_of_cell? w _ hx394_0)).trans hx394_0
                  replace p394 := eq_true p394
                  replace q394 := eq_true q394
                  have p395 : 0 ≤ (x9_1 : Int) := of_decide_eq_true (by first | (with_reducible assumption) | assumption)
                  have q395 : x9_1 < (l0.length : Int) := of_decide_eq_true (by first | (with_reducible assumption) | assumption)
                  obtain ⟨ad395, e395, hx395_0⟩ := Kd.at_int HR0.out x9_1 p395 q395
                  obtain rfl : ad394 = ad395 := (by injection e395)
                  replace hx395_0 := (HB.out.cell (World.block_lt_of_cell? w _ hx395_0)).trans hx395_0
                  replace p395 := eq_true p395
                  replace q395 := eq_true q395
                  go_wp2
                  go_meet
                  case rel => exact ⟨_, (true), (by first | rfl | (simp; done) | (simp [*]; done)), H', ⟨by have := HK1.out; first | omega | exact Nat.le_refl _⟩, ⟨by repeat (first | (with_reducible first | exact HB.out | apply pA | apply pN | apply pD) | exact HB.out)⟩⟩
                · rw [if_neg c12] at H
                  have c12b0 : ((rd l0 x9_1) == 125) = false := beq_eq_false_iff_ne.mpr c12
                  have c12b1 : ((rd l0 x9_1) != 125) = true := bne_iff_ne.mpr c12
                  by_cases c13 : (rd l0 x9_1) < 32
                  · rw [if_pos c13] at H
                    have c13b0 : decide ((rd l0 x9_1) < 32) = true := decide_eq_true c13
                    clear c13
                    by_cases c14 : 0 ≤ (rd l0 x9_1)
                    · rw [if_pos c14] at H
                      have c14b0 := eq_true c14
                      have c14b1 : decide (0 ≤ (rd l0 x9_1)) = true := decide_eq_true c14
                      clear c14
                      obtain ⟨ji15, hji15⟩ : ∃ j_ : Int, (shr .u32 a1 (rd l0 x9_1)) = j_ := ⟨_, rfl⟩
                      replace H : (portreevelaw07_StuffLong.j1 k1 l0 a1 a2 t393 x8_1 x9_1 ((Int.tmod (ji15) 2) == 1)) = some r := by first | (rw [hji15] at H; exact H) | (simp only [hji15] at H ⊢; exact H)
                      have hji15_ : (a1 / 2 ^ min (rd l0 x9_1).toNat 32) = ji15 := hji15
                      have hji15z : (rd l0 x9_1) ≤ 32 → (a1 / 2 ^ (rd l0 x9_1).toNat) = ji15 := shr_small hji15
                      have H' := Aside0.mk H
                      clear H
                      have p394 : 0 ≤ (x9_1 : Int) := of_decide_eq_true (by first | (with_reducible assumption) | assumption)
                      have q394 : x9_1 < (l0.length : Int) := of_decide_eq_true (by first | (with_reducible assumption) | assumption)
                      obtain ⟨ad394, e394, hx394_0⟩ := Kd.at_int HR0.out x9_1 p394 q394
                      cases e394
                      replace hx394_0 := (HB.out.cell (World.block_lt_of_cell? w _ hx394_0)).trans hx394_0
                      replace p394 := eq_true p394
                      replace q394 := eq_true q394
                      have p395 : 0 ≤ (x9_1 : Int) := of_decide_eq_true (by first | (with_reducible assumption) | assumption)
                      have q395 : x9_1 < (l0.length : Int) := of_decide_eq_true (by first | (with_reducible assumption) | assumption)
                      obtain ⟨ad395, e395, hx395_0⟩ := Kd.at_int HR0.out x9_1 p395 q395
                      obtain rfl : ad394 = ad395 := (by injection e395)
                      replace hx395_0 := (HB.out.cell (World.block_lt_of_cell? w _ hx395_0)).trans hx395_0
                      replace p395 := eq_true p395
                      replace q395 := eq_true q395
                      have p396 : 0 ≤ (x9_1 : Int) := of_decide_eq_true (by first | (with_reducible assumption) | assumption)
                      have q396 : x9_1 < (l0.length : Int) := of_decide_eq_true (by first | (with_reducible assumption) | assumption)
                      obtain ⟨ad396, e396, hx396_0⟩ := Kd.at_int HR0.out x9_1 p396 q396
                      obtain rfl : ad394 = ad396 := (by injection e396)
                      replace hx396_0 := (HB.out.cell (World.block_lt_of_cell? w _ hx396_0)).trans hx396_0
                      replace p396 := eq_true p396
                      replace q396 := eq_true q396
                      have p397 : 0 ≤ (x9_1 : Int) := of_decide_eq_true (by first | (with_reducible assumption) | assumption)
                      have q397 : x9_1 < (l0.length : Int) := of_decide_eq_true (by first | (with_reducible assumption) | assumption)
                      obtain ⟨ad397, e397, hx397_0⟩ := Kd.at_int HR0.out x9_1 p397 q397
                      obtain rfl : ad394 = ad397 := (by injection e397)
                      replace hx397_0 := (HB.out.cell (World.block_lt_of_cell? w _ hx397_0)).trans hx397_0
                      replace p397 := eq_true p397
                      replace q397 := eq_true q397
                      go_wp2
                      go_meet
                      case rel => exact ⟨_, (((Int.tmod (ji15) 2) == 1)), (by first | rfl | (simp; done) | (simp only [← hji15] <;> (first | rfl | simp)) | (simp [*]; done)), H', ⟨by have := HK1.out; first | omega | exact Nat.le_refl _⟩, ⟨by repeat (first | (with_reducible first | exact HB.out | apply pA | apply pN | apply pD) | exact HB.out)⟩⟩
                    · rw [if_neg c14] at H
                      exact absurd H (by simp)
                  · rw [if_neg c13] at H
                    have c13b0 : decide ((rd l0 x9_1) < 32) = false := decide_eq_false c13
                    clear c13
                    have H' := Aside0.mk H
                    clear H
                    have p394 : 0 ≤ (x9_1 : Int) := of_decide_eq_true (by first | (with_reducible assumption) | assumption)
                    have q394 : x9_1 < (l0.length : Int) := of_decide_eq_true (by first | (with_reducible assumption) | assumption)
                    obtain ⟨ad394, e394, hx394_0⟩ := Kd.at_int HR0.out x9_1 p394 q394
                    cases e394
                    replace hx394_0 := (HB.out.cell (World.block_lt_of_cell? w _ hx394_0)).trans hx394_0
                    replace p394 := eq_true p394
                    replace q394 := eq_true q394
                    have p395 : 0 ≤ (x9_1 : Int) := of_decide_eq_true (by first | (with_reducible assumption) | assumption)
                    have q395 : x9_1 < (l0.length : Int) := of_decide_eq_true (by first | (with_reducible assumption) | assumption)
                    obtain ⟨ad395, e395, hx395_0⟩ := Kd.at_int HR0.out x9_1 p395 q395
                    obtain rfl : ad394 = ad395 := (by injection e395)
                    replace hx395_0 := (HB.out.cell (World.block_lt_of_cell? w _ hx395_0)).trans hx395_0
                    replace p395 := eq_true p395
                    replace q395 := eq_true q395
                    have p396 : 0 ≤ (x9_1 : Int) := of_decide_eq_true (by first | (with_reducible assumption) | assumption)
                    have q396 : x9_1 < (l0.length : Int) := of_decide_eq_true (by first | (with_reducible assumption) | assumption)
                    obtain ⟨ad396, e396, hx396_0⟩ := Kd.at_int HR0.out x9_1 p396 q396
                    obtain rfl : ad394 = ad396 := (by injection e396)
                    replace hx396_0 := (HB.out.cell (World.block_lt_of_cell? w _ hx396_0)).trans hx396_0
                    replace p396 := eq_true p396
                    replace q396 := eq_true q396
                    go_wp2
                    go_meet
                    case rel => exact ⟨_, (false), (by first | rfl | (simp; done) | (simp [*]; done)), H', ⟨by have := HK1.out; first | omega | exact Nat.le_refl _⟩, ⟨by repeat (first | (with_reducible first | exact HB.out | apply pA | apply pN | apply pD) | exact HB.out)⟩⟩
            · rw [if_neg c10] at H
              exact absurd H (by simp)
          case rest =>
            clear HC9
            try clear c1
            try clear p2
            try clear p3
            try clear q3
            try clear hx3
            try clear c5
            try clear c5b0
            try clear c5b1
            try clear c7
            try clear c8
            try clear c8b0
            try clear c10
            try clear c10b0
            try clear c11
            try clear c11b0
            try clear c11b1
            try clear c12
            try clear c12b0
            try clear c12b1
            try clear c13
            try clear c13b0
            try clear c14
            try clear c14b0
            try clear c14b1
            try clear hx394_0
            try clear hx395_0
            try clear hx396_0
            try clear hx397_0
            try clear p2
            try clear p394
            try clear p395
            try clear p396
            try clear p397
            try clear q394
            try clear q395
            try clear q396
            try clear q397
            obtain ⟨kq, x51_8, rfl, HA, HJ8, HB⟩ := hcut
            cases kq with
            | zero => exact absurd HA.out (by simp [portreevelaw07_StuffLong.j1])
            | succ kj8 =>
              have H := HA.out
              clear HA
              simp only [portreevelaw07_StuffLong.j1] at H
              by_cases c16 : x51_8 = true
              · subst c16
                have H1 : (portreevelaw07_StuffLong.l0 kj8 l0 a1 a2 t393 (wrap64 (x8_1 + 1)) (wrap64 (x9_1 + 1))) = some r := by rw [if_pos rfl] at H; exact H
                clear H
                have H := H1
                clear H1
                have H' := Aside0.mk H
                clear H
                go_wp2
                go_roundg kj8
                case measure => have := HK1.out; have := HJ8.out; omega
                case rel => exact ⟨(wrap64 (x8_1 + 1)), (wrap64 (x9_1 + 1)), (by first | rfl | (simp; done) | (simp [*]; done)), (by first | rfl | (simp; done) | (simp [*]; done)), H', ⟨by have := HK1.out; have := HJ8.out; omega⟩, ⟨by repeat (first | (with_reducible first | exact HB.out | apply pA | apply pN | apply pD) | exact HB.out)⟩⟩
              · replace c16 := Bool.eq_false_iff.mpr c16
                subst c16
                have H1 : (portreevelaw07_StuffLong.l0 kj8 l0 a1 a2 t393 x8_1 (wrap64 (x9_1 + 1))) = some r := by rw [if_neg (show ¬ (false = true) by decide)] at H; exact H
                clear H
                have H := H1
                clear H1
                have H' := Aside0.mk H
                clear H
                go_wp2
                go_roundg kj8
                case measure => have := HK1.out; have := HJ8.out; omega
                case rel => exact ⟨(x8_1), (wrap64 (x9_1 + 1)), (by first | rfl | (simp; done) | (simp [*]; done)), (by first | rfl | (simp; done) | (simp [*]; done)), H', ⟨by have := HK1.out; have := HJ8.out; omega⟩, ⟨by repeat (first | (with_reducible first | exact HB.out | apply pA | apply pN | apply pD) | exact HB.out)⟩⟩
        · rw [if_neg c8] at H
          have c8b0 : decide (x9_1 < (l0.length : Int)) = false := decide_eq_false c8
          clear c8
          replace H := Option.bind_eq_some_iff.mp H
          obtain ⟨t398, A170, H⟩ := H
          replace H : (portreevelaw07_StuffLong.l1 k1 l0 a1 a2 t393 x8_1 t398 0) = some r := H
          have A17 := Aside0.mk A170
          clear A170
          have H' := Aside0.mk H
          clear H
          go_wp2_with (first | ((with_reducible refine gate_callee (f := 14) rfl ?_); refine goesL_ (some 55) rfl rfl Try.func14 (by kernel_rfl) rfl #[.slice A0 l0.length c0, .int .u32 4294967295] rfl (by (try simp only [List.map_toArray, List.map_cons, List.map_nil]); first | done | rfl | (simp only [List.length_drop, List.length_take]; rfl)) ?_; (with_reducible refine (stuff_Escape.calls k1 _ _ l0 4294967295 t398 _ ?side1 ?side2 A17.out).mono ?_); (case side1 => repeat (first | exact (Kd.C_below HR0.out HB.out) | (with_reducible refine Kd.C_alloc ?_ _) | (with_reducible refine Kd.C_drewN ?_ _) | (with_reducible refine Kd.C_drew ?_))); (case side2 => exact HC0.out); rintro e w18 ⟨v399, rfl, ho0, hb⟩; refine ⟨_, rfl, ?_⟩; have n0_ := Aside0.mk (Kd.R_lower ho0 (below_size (by repeat (first | (with_reducible first | exact HB.out | apply pA | apply pN | apply pD) | exact HB.out)))); have n1_ := Aside0.mk (below_step (by repeat (first | (with_reducible first | exact HB.out | apply pA | apply pN | apply pD) | exact HB.out)) hb); clear HB; have HO400 := n0_; have HB := n1_; clear n0_ n1_; (try clear hb); (try clear hb2); (try clear hk); (try clear hi); (try clear ho0)))
          go_loopg [11] k1 (fun kq v11 w' => ∃ (x11_2 : Int), v11 = .int .i64 x11_2 ∧ Aside0 (portreevelaw07_StuffLong.l1 kq l0 a1 a2 t393 x8_1 t398 x11_2 = some r) ∧ Aside0 (kq ≤ k1) ∧ Aside0 (Kd.R (Kd.int .u8) 5 w' w.heap.size (fun _ => True) v399 t398) ∧ Aside0 (Below w.heap.size w w'))
          case atStart => exact ⟨(0), (by first | rfl | (simp; done) | (simp [*]; done)), H', ⟨Nat.le_refl _⟩, ⟨by (with_reducible repeat (first | apply Kd.R_alloc | apply Kd.R_drewN | apply Kd.R_drew)); exact HO400.out⟩, ⟨by repeat (first | (with_reducible first | exact HB.out | apply pA | apply pN | apply pD) | exact HB.out)⟩⟩
          case round =>
            clear H'
            try clear c1
            try clear p2
            try clear p3
            try clear q3
            try clear hx3
            try clear c5
            try clear c5b0
            try clear c5b1
            try clear p6
            try clear c7
            try clear c8
            try clear c8b0
            try clear c10
            try clear c10b0
            try clear c11
            try clear c11b0
            try clear c11b1
            try clear c12
            try clear c12b0
            try clear c12b1
            try clear c13
            try clear c13b0
            try clear c14
            try clear c14b0
            try clear c14b1
            try clear c16
            try clear hx394_0
            try clear hx395_0
            try clear hx396_0
            try clear hx397_0
            try clear p2
            try clear p3
            try clear p394
            try clear p395
            try clear p396
            try clear p397
            try clear q3
            try clear q394
            try clear q395
            try clear q396
            try clear q397
            obtain ⟨x11_2, rfl, HA, HK2, HO_10, HB⟩ := hrel
            cases gk with
            | zero => exact absurd HA.out (by simp [portreevelaw07_StuffLong.l1])
            | succ k2 =>
              have H := HA.out
              clear HA
              simp only [portreevelaw07_StuffLong.l1] at H
              by_cases c19 : x11_2 < (t398.length : Int)
              · rw [if_pos c19] at H
                have c19b0 : decide (x11_2 < (t398.length : Int)) = true := decide_eq_true c19
                clear c19
                by_cases c20 : 0 ≤ x11_2
                · rw [if_pos c20] at H
                  have c20b0 : decide (0 ≤ x11_2) = true := decide_eq_true c20
                  clear c20
                  by_cases c21 : (rd t398 x11_2) < 32
                  · rw [if_pos c21] at H
                    have c21b0 : decide ((rd t398 x11_2) < 32) = true := decide_eq_true c21
                    clear c21
                    exact absurd ((Option.some.inj H).trans hlaw_.out) (by decide)
                  · rw [if_neg c21] at H
                    have c21b0 : decide ((rd t398 x11_2) < 32) = false := decide_eq_false c21
                    clear c21
                    have H' := Aside0.mk H
                    clear H
                    obtain ⟨Ao22, co22, eo22⟩ := Kd.R_slice HO_10.out
                    subst eo22
                    have p401 : 0 ≤ (x11_2 : Int) := of_decide_eq_true (by first | (with_reducible assumption) | assumption)
                    have q401 : x11_2 < (t398.length : Int) := of_decide_eq_true (by first | (with_reducible assumption) | assumption)
                    obtain ⟨ad401, e401, hx401_0⟩ := Kd.at_int (Kd.R_reads' HO_10.out).2.2 x11_2 p401 q401
                    cases e401
                    replace p401 := eq_true p401
                    replace q401 := eq_true q401
                    go_wp2
                    go_roundg k2
                    case measure => have := HK1.out; have := HK2.out; omega
                    case rel => exact ⟨(wrap64 (x11_2 + 1)), (by first | rfl | (simp; done) | (simp [*]; done)), H', ⟨by have := HK1.out; have := HK2.out; omega⟩, ⟨by (with_reducible repeat (first | apply Kd.R_alloc | apply Kd.R_drewN | apply Kd.R_drew)); exact HO_10.out⟩, ⟨by repeat (first | (with_reducible first | exact HB.out | apply pA | apply pN | apply pD) | exact HB.out)⟩⟩
                · rw [if_neg c20] at H
                  exact absurd H (by simp)
              · rw [if_neg c19] at H
                have c19b0 : decide (x11_2 < (t398.length : Int)) = false := decide_eq_false c19
                clear c19
                by_cases c23 : t393 = true
                · subst c23
                  have H1 : ((stuff_Escape.f k2 l0 a1).bind fun t402 => (if (t402.length : Int) = (wrap64 ((l0.length : Int) + x8_1)) then ((stuff_Escape.f k2 l0 (Go.bits .or .u32 a1 a2)).bind fun t405 => (some (decide ((t405.length : Int) ≥ (wrap64 ((l0.length : Int) + x8_1)))))) else (some false))) = some r := by rw [if_pos rfl] at H; exact H
                  clear H
                  have H := H1
                  clear H1
                  replace H := Option.bind_eq_some_iff.mp H
                  obtain ⟨t402, A240, H⟩ := H
                  replace H : (if (t402.length : Int) = (wrap64 ((l0.length : Int) + x8_1)) then ((stuff_Escape.f k2 l0 (Go.bits .or .u32 a1 a2)).bind fun t405 => (some (decide ((t405.length : Int) ≥ (wrap64 ((l0.length : Int) + x8_1)))))) else (some false)) = some r := H
                  have A24 := Aside0.mk A240
                  clear A240
                  by_cases c25 : (t402.length : Int) = (wrap64 ((l0.length : Int) + x8_1))
                  · rw [if_pos c25] at H
                    have c25b0 : ((t402.length : Int) == (wrap64 ((l0.length : Int) + x8_1))) = true := beq_iff_eq.mpr c25
                    have c25b1 : ((t402.length : Int) != (wrap64 ((l0.length : Int) + x8_1))) = false := bne_eq_false_iff_eq.mpr c25
                    clear c25
                    replace H := Option.bind_eq_some_iff.mp H
                    obtain ⟨t405, A260, H⟩ := H
                    replace H : (some (decide ((t405.length : Int) ≥ (wrap64 ((l0.length : Int) + x8_1))))) = some r := H
                    have A26 := Aside0.mk A260
                    clear A260
                    clear hlaw_
                    obtain rfl := Option.some.inj H
                    obtain ⟨Ao27, co27, eo27⟩ := Kd.R_slice HO_10.out
                    subst eo27
                    go_wp2_with (first | (go_at_call 14; (with_reducible refine (stuff_Escape.calls k2 _ _ l0 a1 t402 _ ?side1 ?side2 A24.out).mono ?_); (case side1 => repeat (first | exact (Kd.C_below HR0.out HB.out) | (with_reducible refine Kd.C_alloc ?_ _) | (with_reducible refine Kd.C_drewN ?_ _) | (with_reducible refine Kd.C_drew ?_))); (case side2 => exact HC0.out); rintro e w28 ⟨v403, rfl, ho0, hb⟩; have n0_ := Aside0.mk (Kd.R_elder' (by (with_reducible repeat (first | apply Kd.R_alloc | apply Kd.R_drewN | apply Kd.R_drew)); exact HO_10.out) (Kd.R_base ho0) hb); have n1_ := Aside0.mk (Kd.R_lower (Kd.R_new' ho0 (Kd.R_lt (by (with_reducible repeat (first | apply Kd.R_alloc | apply Kd.R_drewN | apply Kd.R_drew)); exact HO_10.out))) (below_size (by repeat (first | (with_reducible first | exact HB.out | apply pA | apply pN | apply pD) | exact HB.out)))); have n2_ := Aside0.mk (below_step (by repeat (first | (with_reducible first | exact HB.out | apply pA | apply pN | apply pD) | exact HB.out)) hb); clear HO_10; clear HB; have HO_10 := n0_; have HO404 := n1_; have HB := n2_; clear n0_ n1_ n2_; (try clear hb); (try clear hb2); (try clear hk); (try clear hi); (try clear ho0); obtain ⟨Ao29, co29, eo29⟩ := Kd.R_slice HO404.out; subst eo29) | (go_at_call 14; (with_reducible refine (stuff_Escape.calls k2 _ _ l0 (Go.bits .or .u32 a1 a2) t405 _ ?side1 ?side2 A26.out).mono ?_); (case side1 => repeat (first | exact (Kd.C_below HR0.out HB.out) | (with_reducible refine Kd.C_alloc ?_ _) | (with_reducible refine Kd.C_drewN ?_ _) | (with_reducible refine Kd.C_drew ?_))); (case side2 => exact HC0.out); rintro e w30 ⟨v406, rfl, ho0, hb⟩; have n0_ := Aside0.mk (Kd.R_elder' (by (with_reducible repeat (first | apply Kd.R_alloc | apply Kd.R_drewN | apply Kd.R_drew)); exact HO_10.out) (Kd.R_base ho0) hb); have n1_ := Aside0.mk (Kd.R_elder' (by (with_reducible repeat (first | apply Kd.R_alloc | apply Kd.R_drewN | apply Kd.R_drew)); exact HO404.out) (Kd.R_base ho0) hb); have n2_ := Aside0.mk (Kd.R_lower (Kd.R_new' (Kd.R_new' ho0 (Kd.R_lt (by (with_reducible repeat (first | apply Kd.R_alloc | apply Kd.R_drewN | apply Kd.R_drew)); exact HO_10.out))) (Kd.R_lt (by (with_reducible repeat (first | apply Kd.R_alloc | apply Kd.R_drewN | apply Kd.R_drew)); exact HO404.out))) (below_size (by repeat (first | (with_reducible first | exact HB.out | apply pA | apply pN | apply pD) | exact HB.out)))); have n3_ := Aside0.mk (below_step (by repeat (first | (with_reducible first | exact HB.out | apply pA | apply pN | apply pD) | exact HB.out)) hb); clear HO_10; clear HO404; clear HB; have HO_10 := n0_; have HO404 := n1_; have HO407 := n2_; have HB := n3_; clear n0_ n1_ n2_ n3_; (try clear hb); (try clear hb2); (try clear hk); (try clear hi); (try clear ho0); obtain ⟨Ao31, co31, eo31⟩ := Kd.R_slice HO407.out; subst eo31))
                    go_ret
                    exact ⟨by first | rfl | (simp [errW_none, errW_some] <;> rfl) | (simp [*, errW_none, errW_some] <;> rfl), by repeat (first | (with_reducible first | exact HB.out | apply pA | apply pN | apply pD) | exact HB.out)⟩
                  · rw [if_neg c25] at H
                    have c25b0 : ((t402.length : Int) == (wrap64 ((l0.length : Int) + x8_1))) = false := beq_eq_false_iff_ne.mpr c25
                    have c25b1 : ((t402.length : Int) != (wrap64 ((l0.length : Int) + x8_1))) = true := bne_iff_ne.mpr c25
                    exact absurd ((Option.some.inj H).trans hlaw_.out) (by decide)
                · replace c23 := Bool.eq_false_iff.mpr c23
                  subst c23
                  have H1 : (some false) = some r := by rw [if_neg (show ¬ (false = true) by decide)] at H; exact H
                  clear H
                  have H := H1
                  clear H1
                  exact absurd ((Option.some.inj H).trans hlaw_.out) (by decide)

end Go.Proofs.Ytdmhamnnadegnaa.Q

-- written by this session's own program (wip/tools/myprint.py), over the kit's print
import Derived.Test.YtoenogjedmnnlaaDoorQx0
namespace Go.Proofs.YtoenogjedmnnlaaDoor.Q
open Go.RowKit Go.Proofs.YtoenogjedmnnlaaDoorW.PrintWords Go.Proofs.YtoenogjedmnnlaaDoorW.PrintLast Go.Proofs.YtoenogjedmnnlaaDoorW.PrintMore
open Go.Proofs.YtoenogjedmnnlaaDoorV Go.Proofs.YtoenogjedmnnlaaDoorG
attribute [local go_sem] max2_int min2_int max_two min_two max_three min_three max_four min_four   -- for this text's walks alone
set_option linter.unusedVariables false
set_option linter.unusedSimpArgs false

/-! ### fsm_Timed: function 22 -/
def fsm_Timed.f (a0 : Int) : Option (Bool) := if a0 ≥ 4 then (some (decide (a0 ≤ 8))) else (some false)
set_option maxHeartbeats 8000000 in
set_option maxRecDepth 100000 in
theorem fsm_Timed.calls (a0 : Int) (r : Bool) (w : World) (h : fsm_Timed.f a0 = some r) :
    Calls Tryd.prog 22 #[.int .i64 a0] w fun e w' => e = .returned (.bool r) ∧ Drawn0 w w' := by
  have H : (if a0 ≥ 4 then (some (decide (a0 ≤ 8))) else (some false)) = some r := h
  clear h
  by_cases c2 : a0 ≥ 4
  · rw [if_pos c2] at H
    have c2b0 : decide (4 ≤ a0) = true := decide_eq_true c2
    clear c2
    obtain rfl := Option.some.inj H
    go_enter Tryd.func22, Tryd.ntmps22
    go_wp2
    go_ret
    exact ⟨by first | rfl | (simp; done) | (simp [*]; done), by repeat (first | exact Drawn0.refl _ | apply Drawn0.step)⟩
  · rw [if_neg c2] at H
    have c2b0 : decide (4 ≤ a0) = false := decide_eq_false c2
    clear c2
    obtain rfl := Option.some.inj H
    go_enter Tryd.func22, Tryd.ntmps22
    go_wp2
    go_ret
    exact ⟨by first | rfl | (simp; done) | (simp [*]; done), by repeat (first | exact Drawn0.refl _ | apply Drawn0.step)⟩

/-! ### auto_Right: function 11 -/
def auto_Right.j0 : Nat → Bool → Int → Int → Int → Int → Option (Bool)
  | 0, _, _, _, _, _ => none
  | k + 1, x20, x102000, x102001, x102002, x102003 => if x20 = true then (some false) else ((fsm_Timed.f x102000).bind fun t102 => (if t102 = true then (if x102002 ≥ 1 then (some (decide (x102002 ≤ 3))) else (some false)) else (some (x102002 == 0))))
def auto_Right.f (k : Nat) (a0_0 : Int) (a0_1 : Int) (a0_2 : Int) (a0_3 : Int) : Option (Bool) := if a0_0 < 0 then (auto_Right.j0 k true a0_0 a0_1 a0_2 a0_3) else (if a0_0 ≥ 10 then (auto_Right.j0 k true a0_0 a0_1 a0_2 a0_3) else (if a0_1 < 0 then (auto_Right.j0 k true a0_0 a0_1 a0_2 a0_3) else (auto_Right.j0 k (decide (a0_1 > 5)) a0_0 a0_1 a0_2 a0_3)))
theorem auto_Right.mono_l : ∀ k, (∀ y0 y1 y2 y3 y4, LeO (auto_Right.j0 k y0 y1 y2 y3 y4) (auto_Right.j0 (k + 1) y0 y1 y2 y3 y4))
  | 0 => fun _ _ _ _ _ r h => by simp [auto_Right.j0] at h
  | k + 1 => by
    have ih0 := auto_Right.mono_l k
    · intro y0 y1 y2 y3 y4
      unfold auto_Right.j0
      repeat' first
      | (with_reducible exact ih0 _ _ _ _ _)
      | (with_reducible exact LeO.refl _)
      | (with_reducible exact LeO.none _)
      | (with_reducible refine LeO.ite ?_ ?_)
      | (with_reducible refine LeO.bind ?_ (fun _ => ?_))
      | exact ih0 _ _ _ _ _
      | exact LeO.none _
      | refine LeO.ite ?_ ?_
      | refine LeO.bind ?_ (fun _ => ?_)
theorem auto_Right.mono : ∀ a0 a1 a2 a3 k, LeO (auto_Right.f k a0 a1 a2 a3) (auto_Right.f (k + 1) a0 a1 a2 a3) := by
  intro a0 a1 a2 a3 k
  have ih0 := auto_Right.mono_l k
  unfold auto_Right.f
  repeat' first
      | (with_reducible exact ih0 _ _ _ _ _)
      | (with_reducible exact LeO.refl _)
      | (with_reducible exact LeO.none _)
      | (with_reducible refine LeO.ite ?_ ?_)
      | (with_reducible refine LeO.bind ?_ (fun _ => ?_))
      | exact ih0 _ _ _ _ _
      | exact LeO.none _
      | refine LeO.ite ?_ ?_
      | refine LeO.bind ?_ (fun _ => ?_)
set_option maxHeartbeats 8000000 in
set_option maxRecDepth 100000 in
theorem auto_Right.calls (k : Nat) (a0_0 : Int) (a0_1 : Int) (a0_2 : Int) (a0_3 : Int) (r : Bool) (w : World) (h : auto_Right.f k a0_0 a0_1 a0_2 a0_3 = some r) :
    Calls Tryd.prog 11 #[.agg #[.int .i64 a0_0, .int .i64 a0_1, .int .i64 a0_2, .int .u8 a0_3]] w fun e w' => e = .returned (.bool r) ∧ Below w.heap.size w w' := by
  have hu23 := Tryd.underlying23
  have HB := Aside0.mk (Below.refl w.heap.size w)
  have H : (if a0_0 < 0 then (auto_Right.j0 k true a0_0 a0_1 a0_2 a0_3) else (if a0_0 ≥ 10 then (auto_Right.j0 k true a0_0 a0_1 a0_2 a0_3) else (if a0_1 < 0 then (auto_Right.j0 k true a0_0 a0_1 a0_2 a0_3) else (auto_Right.j0 k (decide (a0_1 > 5)) a0_0 a0_1 a0_2 a0_3)))) = some r := h
  clear h
  have HC2 := Aside0.mk H
  clear H
  go_enter Tryd.func11, Tryd.ntmps11
  go_upto_region 1 with (first | ((with_reducible refine gate_dst (N := 1) rfl ?_); refine box_event ?hg (N := 1) ?hd (cs := #[.int .i64 a0_0, .int .i64 a0_1, .int .i64 a0_2, .int .u8 a0_3]) (t := 23) ?hr ?_; (case hd => rfl); (case hg => rfl); (case hr => first | (go_simp; done) | (go_simp; rfl)); intro gb101 hg w3 hbox hb; have n0_ := Aside0.mk (below_step (by repeat (first | (with_reducible first | exact HB.out | apply pA | apply pN | apply pD) | exact HB.out)) hb); have n1_ := Aside0.mk (hbox); have n2_ := Aside0.mk ((by rw [hg]; exact (below_size (by repeat (first | (with_reducible first | exact HB.out | apply pA | apply pN | apply pD) | exact HB.out))) : w.heap.size ≤ gb101)); have n3_ := Aside0.mk ((by rw [hg]; exact (below_size (by repeat (first | (with_reducible first | exact HB.out | apply pA | apply pN | apply pD) | exact HB.out))) : w.heap.size ≤ gb101)); clear HB; have HB := n0_; have BK101 := n1_; have GW101 := n2_; have GE101 := n3_; clear n0_ n1_ n2_ n3_; clear hb hbox hg))
  (try simp only [Act.put, List.setIfInBounds_toArray, List.set_cons_zero, List.set_cons_succ])
  go_cut [20] (fun v20 wc => ∃ (kq : Nat) (x20_1 : Bool), v20 = .bool x20_1 ∧ Aside0 (auto_Right.j0 kq x20_1 a0_0 a0_1 a0_2 a0_3 = some r) ∧ Aside0 (kq ≤ k) ∧ Aside0 (wc.heap[gb101]? = some (.cells #[.int .i64 a0_0, .int .i64 a0_1, .int .i64 a0_2, .int .u8 a0_3] 23 (0, 0))) ∧ Aside0 (Below w.heap.size w wc))
  case first =>
    have H := HC2.out
    clear HC2
    by_cases c4 : a0_0 < 0
    · rw [if_pos c4] at H
      have c4b0 : decide (a0_0 < 0) = true := decide_eq_true c4
      clear c4
      (first | rw [c4b0] | (simp only [i64_w, i32_w]; rw [c4b0]) | skip)
      have H' := Aside0.mk H
      clear H
      have hcz5_0 : w3.cell? ⟨gb101, 0, none⟩ = some (.int .i64 a0_0) := (blk_cell BK101.out 0).trans rfl
      have hcz5_1 : w3.cell? ⟨gb101, 1, none⟩ = some (.int .i64 a0_1) := (blk_cell BK101.out 1).trans rfl
      have hcz5_2 : w3.cell? ⟨gb101, 2, none⟩ = some (.int .i64 a0_2) := (blk_cell BK101.out 2).trans rfl
      have hcz5_3 : w3.cell? ⟨gb101, 3, none⟩ = some (.int .u8 a0_3) := (blk_cell BK101.out 3).trans rfl
      have hfz5_0 := blk_frozen BK101.out 0
      have hfz5_1 := blk_frozen BK101.out 1
      have hfz5_2 := blk_frozen BK101.out 2
      have hfz5_3 := blk_frozen BK101.out 3
      go_wp2
      go_meet
      case rel => exact ⟨_, (true), (by first | rfl | (simp; done) | (simp [*]; done)), H', ⟨by first | omega | exact Nat.le_refl _⟩, ⟨by (with_reducible repeat (first | refine qN ?_ _ | refine qD ?_ | refine qA ?_ _)); exact BK101.out⟩, ⟨by repeat (first | (with_reducible first | exact HB.out | apply pA | apply pN | apply pD | refine pS ?_ GE101.out) | exact HB.out)⟩⟩
    · rw [if_neg c4] at H
      have c4b0 : decide (a0_0 < 0) = false := decide_eq_false c4
      clear c4
      (first | rw [c4b0] | (simp only [i64_w, i32_w]; rw [c4b0]) | skip)
      by_cases c6 : a0_0 ≥ 10
      · rw [if_pos c6] at H
        have c6b0 : decide (10 ≤ a0_0) = true := decide_eq_true c6
        clear c6
        have H' := Aside0.mk H
        clear H
        have hcz7_0 : w3.cell? ⟨gb101, 0, none⟩ = some (.int .i64 a0_0) := (blk_cell BK101.out 0).trans rfl
        have hcz7_1 : w3.cell? ⟨gb101, 1, none⟩ = some (.int .i64 a0_1) := (blk_cell BK101.out 1).trans rfl
        have hcz7_2 : w3.cell? ⟨gb101, 2, none⟩ = some (.int .i64 a0_2) := (blk_cell BK101.out 2).trans rfl
        have hcz7_3 : w3.cell? ⟨gb101, 3, none⟩ = some (.int .u8 a0_3) := (blk_cell BK101.out 3).trans rfl
        have hfz7_0 := blk_frozen BK101.out 0
        have hfz7_1 := blk_frozen BK101.out 1
        have hfz7_2 := blk_frozen BK101.out 2
        have hfz7_3 := blk_frozen BK101.out 3
        go_wp2
        go_meet
        case rel => exact ⟨_, (true), (by first | rfl | (simp; done) | (simp [*]; done)), H', ⟨by first | omega | exact Nat.le_refl _⟩, ⟨by (with_reducible repeat (first | refine qN ?_ _ | refine qD ?_ | refine qA ?_ _)); exact BK101.out⟩, ⟨by repeat (first | (with_reducible first | exact HB.out | apply pA | apply pN | apply pD | refine pS ?_ GE101.out) | exact HB.out)⟩⟩
      · rw [if_neg c6] at H
        have c6b0 : decide (10 ≤ a0_0) = false := decide_eq_false c6
        clear c6
        by_cases c8 : a0_1 < 0
        · rw [if_pos c8] at H
          have c8b0 : decide (a0_1 < 0) = true := decide_eq_true c8
          clear c8
          have H' := Aside0.mk H
          clear H
          have hcz9_0 : w3.cell? ⟨gb101, 0, none⟩ = some (.int .i64 a0_0) := (blk_cell BK101.out 0).trans rfl
          have hcz9_1 : w3.cell? ⟨gb101, 1, none⟩ = some (.int .i64 a0_1) := (blk_cell BK101.out 1).trans rfl
          have hcz9_2 : w3.cell? ⟨gb101, 2, none⟩ = some (.int .i64 a0_2) := (blk_cell BK101.out 2).trans rfl
          have hcz9_3 : w3.cell? ⟨gb101, 3, none⟩ = some (.int .u8 a0_3) := (blk_cell BK101.out 3).trans rfl
          have hfz9_0 := blk_frozen BK101.out 0
          have hfz9_1 := blk_frozen BK101.out 1
          have hfz9_2 := blk_frozen BK101.out 2
          have hfz9_3 := blk_frozen BK101.out 3
          go_wp2
          go_meet
          case rel => exact ⟨_, (true), (by first | rfl | (simp; done) | (simp [*]; done)), H', ⟨by first | omega | exact Nat.le_refl _⟩, ⟨by (with_reducible repeat (first | refine qN ?_ _ | refine qD ?_ | refine qA ?_ _)); exact BK101.out⟩, ⟨by repeat (first | (with_reducible first | exact HB.out | apply pA | apply pN | apply pD | refine pS ?_ GE101.out) | exact HB.out)⟩⟩
        · rw [if_neg c8] at H
          have c8b0 : decide (a0_1 < 0) = false := decide_eq_false c8
          clear c8
          have H' := Aside0.mk H
          clear H
          have hcz10_0 : w3.cell? ⟨gb101, 0, none⟩ = some (.int .i64 a0_0) := (blk_cell BK101.out 0).trans rfl
          have hcz10_1 : w3.cell? ⟨gb101, 1, none⟩ = some (.int .i64 a0_1) := (blk_cell BK101.out 1).trans rfl
          have hcz10_2 : w3.cell? ⟨gb101, 2, none⟩ = some (.int .i64 a0_2) := (blk_cell BK101.out 2).trans rfl
          have hcz10_3 : w3.cell? ⟨gb101, 3, none⟩ = some (.int .u8 a0_3) := (blk_cell BK101.out 3).trans rfl
          have hfz10_0 := blk_frozen BK101.out 0
          have hfz10_1 := blk_frozen BK101.out 1
          have hfz10_2 := blk_frozen BK101.out 2
          have hfz10_3 := blk_frozen BK101.out 3
          go_wp2
          go_meet
          case rel => exact ⟨_, (decide (a0_1 > 5)), (by first | rfl | (simp; done) | (simp [*]; done)), H', ⟨by first | omega | exact Nat.le_refl _⟩, ⟨by (with_reducible repeat (first | refine qN ?_ _ | refine qD ?_ | refine qA ?_ _)); exact BK101.out⟩, ⟨by repeat (first | (with_reducible first | exact HB.out | apply pA | apply pN | apply pD | refine pS ?_ GE101.out) | exact HB.out)⟩⟩
  case rest =>
    clear HC2
    try clear c1
    try clear p2
    try clear c4
    try clear c4b0
    try clear c6
    try clear c6b0
    try clear c8
    try clear c8b0
    try clear hcz10_0
    try clear hcz10_1
    try clear hcz10_2
    try clear hcz10_3
    try clear hcz5_0
    try clear hcz5_1
    try clear hcz5_2
    try clear hcz5_3
    try clear hcz7_0
    try clear hcz7_1
    try clear hcz7_2
    try clear hcz7_3
    try clear hcz9_0
    try clear hcz9_1
    try clear hcz9_2
    try clear hcz9_3
    try clear hfz10_0
    try clear hfz10_1
    try clear hfz10_2
    try clear hfz10_3
    try clear hfz5_0
    try clear hfz5_1
    try clear hfz5_2
    try clear hfz5_3
    try clear hfz7_0
    try clear hfz7_1
    try clear hfz7_2
    try clear hfz7_3
    try clear hfz9_0
    try clear hfz9_1
    try clear hfz9_2
    try clear hfz9_3
    obtain ⟨kq, x20_1, rfl, HA, HJ1, BK101, HB⟩ := hcut
    cases kq with
    | zero => exact absurd HA.out (by simp [auto_Right.j0])
    | succ kj1 =>
      have H := HA.out
      clear HA
      simp only [auto_Right.j0] at H
      by_cases c11 : x20_1 = true
      · subst c11
        have H1 : (some false) = some r := by rw [if_pos rfl] at H; exact H
        clear H
        have H := H1
        clear H1
        obtain rfl := Option.some.inj H
        go_wp2
        go_ret
        exact ⟨by first | rfl | (simp [errW_none, errW_some] <;> rfl) | (simp [*, errW_none, errW_some] <;> rfl), by repeat (first | (with_reducible first | exact HB.out | apply pA | apply pN | apply pD | refine pS ?_ GE101.out) | exact HB.out)⟩
      · replace c11 := Bool.eq_false_iff.mpr c11
        subst c11
        have H1 : ((fsm_Timed.f a0_0).bind fun t102 => (if t102 = true then (if a0_2 ≥ 1 then (some (decide (a0_2 ≤ 3))) else (some false)) else (some (a0_2 == 0)))) = some r := by rw [if_neg (show ¬ (false = true) by decide)] at H; exact H
        clear H
        have H := H1
        clear H1
        replace H := Option.bind_eq_some_iff.mp H
        obtain ⟨t102, A120, H⟩ := H
        replace H : (if t102 = true then (if a0_2 ≥ 1 then (some (decide (a0_2 ≤ 3))) else (some false)) else (some (a0_2 == 0))) = some r := H
        have A12 := Aside0.mk A120
        clear A120
        by_cases c13 : t102 = true
        · subst c13
          have H1 : (if a0_2 ≥ 1 then (some (decide (a0_2 ≤ 3))) else (some false)) = some r := by rw [if_pos rfl] at H; exact H
          clear H
          have H := H1
          clear H1
          by_cases c14 : a0_2 ≥ 1
          · rw [if_pos c14] at H
            have c14b0 : decide (1 ≤ a0_2) = true := decide_eq_true c14
            clear c14
            obtain rfl := Option.some.inj H
            have hcz15_0 : wc.cell? ⟨gb101, 0, none⟩ = some (.int .i64 a0_0) := (blk_cell BK101.out 0).trans rfl
            have hcz15_1 : wc.cell? ⟨gb101, 1, none⟩ = some (.int .i64 a0_1) := (blk_cell BK101.out 1).trans rfl
            have hcz15_2 : wc.cell? ⟨gb101, 2, none⟩ = some (.int .i64 a0_2) := (blk_cell BK101.out 2).trans rfl
            have hcz15_3 : wc.cell? ⟨gb101, 3, none⟩ = some (.int .u8 a0_3) := (blk_cell BK101.out 3).trans rfl
            have hfz15_0 := blk_frozen BK101.out 0
            have hfz15_1 := blk_frozen BK101.out 1
            have hfz15_2 := blk_frozen BK101.out 2
            have hfz15_3 := blk_frozen BK101.out 3
            go_wp2_with (first | ((with_reducible refine gate_callee (f := 22) rfl ?_); refine goesL_ (some 23) rfl rfl Tryd.func22 (by kernel_rfl) rfl #[.int .i64 a0_0] rfl (by (try simp only [List.map_toArray, List.map_cons, List.map_nil]); first | done | rfl | (simp only [List.length_drop, List.length_take]; rfl)) ?_; (with_reducible refine (fsm_Timed.calls a0_0 true _ A12.out).mono ?_); rintro e w' ⟨rfl, ⟨nd, rfl⟩⟩; refine ⟨_, rfl, ?_⟩))
            go_ret
            exact ⟨by first | rfl | (simp [errW_none, errW_some] <;> rfl) | (simp [*, errW_none, errW_some] <;> rfl), by repeat (first | (with_reducible first | exact HB.out | apply pA | apply pN | apply pD | refine pS ?_ GE101.out) | exact HB.out)⟩
          · rw [if_neg c14] at H
            have c14b0 : decide (1 ≤ a0_2) = false := decide_eq_false c14
            clear c14
            obtain rfl := Option.some.inj H
            have hcz16_0 : wc.cell? ⟨gb101, 0, none⟩ = some (.int .i64 a0_0) := (blk_cell BK101.out 0).trans rfl
            have hcz16_1 : wc.cell? ⟨gb101, 1, none⟩ = some (.int .i64 a0_1) := (blk_cell BK101.out 1).trans rfl
            have hcz16_2 : wc.cell? ⟨gb101, 2, none⟩ = some (.int .i64 a0_2) := (blk_cell BK101.out 2).trans rfl
            have hcz16_3 : wc.cell? ⟨gb101, 3, none⟩ = some (.int .u8 a0_3) := (blk_cell BK101.out 3).trans rfl
            have hfz16_0 := blk_frozen BK101.out 0
            have hfz16_1 := blk_frozen BK101.out 1
            have hfz16_2 := blk_frozen BK101.out 2
            have hfz16_3 := blk_frozen BK101.out 3
            go_wp2_with (first | ((with_reducible refine gate_callee (f := 22) rfl ?_); refine goesL_ (some 23) rfl rfl Tryd.func22 (by kernel_rfl) rfl #[.int .i64 a0_0] rfl (by (try simp only [List.map_toArray, List.map_cons, List.map_nil]); first | done | rfl | (simp only [List.length_drop, List.length_take]; rfl)) ?_; (with_reducible refine (fsm_Timed.calls a0_0 true _ A12.out).mono ?_); rintro e w' ⟨rfl, ⟨nd, rfl⟩⟩; refine ⟨_, rfl, ?_⟩))
            go_ret
            exact ⟨by first | rfl | (simp [errW_none, errW_some] <;> rfl) | (simp [*, errW_none, errW_some] <;> rfl), by repeat (first | (with_reducible first | exact HB.out | apply pA | apply pN | apply pD | refine pS ?_ GE101.out) | exact HB.out)⟩
        · replace c13 := Bool.eq_false_iff.mpr c13
          subst c13
          have H1 : (some (a0_2 == 0)) = some r := by rw [if_neg (show ¬ (false = true) by decide)] at H; exact H
          clear H
          have H := H1
          clear H1
          obtain rfl := Option.some.inj H
          have hcz17_0 : wc.cell? ⟨gb101, 0, none⟩ = some (.int .i64 a0_0) := (blk_cell BK101.out 0).trans rfl
          have hcz17_1 : wc.cell? ⟨gb101, 1, none⟩ = some (.int .i64 a0_1) := (blk_cell BK101.out 1).trans rfl
          have hcz17_2 : wc.cell? ⟨gb101, 2, none⟩ = some (.int .i64 a0_2) := (blk_cell BK101.out 2).trans rfl
          have hcz17_3 : wc.cell? ⟨gb101, 3, none⟩ = some (.int .u8 a0_3) := (blk_cell BK101.out 3).trans rfl
          have hfz17_0 := blk_frozen BK101.out 0
          have hfz17_1 := blk_frozen BK101.out 1
          have hfz17_2 := blk_frozen BK101.out 2
          have hfz17_3 := blk_frozen BK101.out 3
          go_wp2_with (first | ((with_reducible refine gate_callee (f := 22) rfl ?_); refine goesL_ (some 23) rfl rfl Tryd.func22 (by kernel_rfl) rfl #[.int .i64 a0_0] rfl (by (try simp only [List.map_toArray, List.map_cons, List.map_nil]); first | done | rfl | (simp only [List.length_drop, List.length_take]; rfl)) ?_; (with_reducible refine (fsm_Timed.calls a0_0 false _ A12.out).mono ?_); rintro e w' ⟨rfl, ⟨nd, rfl⟩⟩; refine ⟨_, rfl, ?_⟩))
          go_ret
          exact ⟨by first | rfl | (simp [errW_none, errW_some] <;> rfl) | (simp [*, errW_none, errW_some] <;> rfl), by repeat (first | (with_reducible first | exact HB.out | apply pA | apply pN | apply pD | refine pS ?_ GE101.out) | exact HB.out)⟩

/-! ### auto_Bound: function 12 -/
def auto_Bound.f  : Option (Int) := some 18
set_option maxHeartbeats 8000000 in
set_option maxRecDepth 100000 in
theorem auto_Bound.calls  (r : Int) (w : World) (h : auto_Bound.f  = some r) :
    Calls Tryd.prog 12 #[] w fun e w' => e = .returned (.int .i64 r) ∧ Drawn0 w w' := by
  have H : (some 18) = some r := h
  clear h
  obtain rfl := Option.some.inj H
  go_enter Tryd.func12, Tryd.ntmps12
  go_wp2
  go_ret
  exact ⟨by first | rfl | (simp; done) | (simp [*]; done), by repeat (first | exact Drawn0.refl _ | apply Drawn0.step)⟩

-- NOT PRINTED: function 28 (fsm_letters)

-- NOT PRINTED: function 49 (unicode_is16)

-- NOT PRINTED: function 50 (unicode_is32)

-- NOT PRINTED: function 48 (unicode_isExcludingLatin)

-- NOT PRINTED: function 46 (unicode_IsSpace)

-- NOT PRINTED: function 45 (strings_FieldsFunc)

-- NOT PRINTED: function 29 (strings_Fields)

/-! ### fsm_table: function 30 -/
def fsm_table.f  : Option (ByteArray × ByteArray × ByteArray × ByteArray × ByteArray × ByteArray × ByteArray × ByteArray × ByteArray × ByteArray × ByteArray × ByteArray × ByteArray × ByteArray × ByteArray × ByteArray) := some ((⟨#[50, 32, 105, 114, 54, 32, 45, 32, 45, 32, 45, 32, 45, 32, 45, 32, 45, 32, 45, 32, 45]⟩ : ByteArray), (⟨#[45, 32, 45, 32, 48, 32, 116, 49, 32, 48, 32, 49, 32, 49, 32, 49, 32, 49, 32, 100, 49]⟩ : ByteArray), (⟨#[116, 49, 32, 49, 32, 105, 114, 54, 32, 51, 32, 53, 32, 53, 32, 54, 32, 55, 32, 56, 32, 57]⟩ : ByteArray), (⟨#[48, 32, 102, 48, 32, 50, 32, 50, 32, 52, 32, 52, 32, 105, 115, 52, 32, 105, 115, 52, 32, 105, 115, 52, 32, 100, 105, 115, 52]⟩ : ByteArray), (⟨#[45, 32, 45, 32, 45, 32, 45, 32, 115, 52, 32, 115, 53, 32, 114, 54, 32, 114, 54, 32, 114, 56, 32, 45]⟩ : ByteArray), (⟨#[45, 32, 45, 32, 45, 32, 45, 32, 102, 50, 32, 102, 51, 32, 102, 51, 32, 102, 51, 32, 102, 51, 32, 45]⟩ : ByteArray), (⟨#[45, 32, 45, 32, 107, 50, 32, 105, 114, 97, 56, 32, 52, 32, 53, 32, 97, 56, 32, 97, 117, 57, 32, 97, 56, 32, 100, 114, 97, 56]⟩ : ByteArray), (⟨#[45, 32, 45, 32, 107, 50, 32, 105, 114, 110, 54, 32, 52, 32, 53, 32, 110, 54, 32, 110, 55, 32, 110, 54, 32, 100, 114, 110, 54]⟩ : ByteArray), (⟨#[45, 32, 45, 32, 107, 50, 32, 107, 51, 32, 52, 32, 53, 32, 105, 55, 32, 114, 54, 32, 105, 117, 57, 32, 100, 114, 54]⟩ : ByteArray), (⟨#[45, 32, 45, 32, 107, 50, 32, 107, 51, 32, 52, 32, 53, 32, 105, 114, 54, 32, 114, 54, 32, 105, 114, 56, 32, 100, 114, 54]⟩ : ByteArray), (⟨#[45, 32, 45, 32, 107, 50, 32, 107, 51, 32, 107, 52, 32, 107, 53, 32, 107, 54, 32, 107, 54, 32, 107, 54, 32, 100, 122, 107, 53]⟩ : ByteArray), (⟨#[45, 32, 45, 32, 50, 32, 51, 32, 102, 50, 32, 102, 51, 32, 54, 32, 54, 32, 56, 32, 100, 114, 54]⟩ : ByteArray), (⟨#[45, 32, 45, 32, 106, 50, 32, 106, 51, 32, 106, 52, 32, 106, 53, 32, 106, 54, 32, 106, 55, 32, 106, 56, 32, 106, 57]⟩ : ByteArray), (⟨#[45, 32, 45, 32, 50, 32, 51, 32, 52, 32, 53, 32, 54, 32, 54, 32, 56, 32, 57]⟩ : ByteArray), (⟨#[45, 32, 45, 32, 102, 50, 32, 102, 51, 32, 102, 50, 32, 102, 51, 32, 102, 51, 32, 102, 51, 32, 102, 51, 32, 100, 105, 115, 53]⟩ : ByteArray), (⟨#[45, 32, 45, 32, 50, 32, 51, 32, 52, 32, 53, 32, 54, 32, 55, 32, 56, 32, 101, 57]⟩ : ByteArray))
set_option maxHeartbeats 8000000 in
set_option maxRecDepth 100000 in
theorem fsm_table.calls  (r1 : ByteArray) (r2 : ByteArray) (r3 : ByteArray) (r4 : ByteArray) (r5 : ByteArray) (r6 : ByteArray) (r7 : ByteArray) (r8 : ByteArray) (r9 : ByteArray) (r10 : ByteArray) (r11 : ByteArray) (r12 : ByteArray) (r13 : ByteArray) (r14 : ByteArray) (r15 : ByteArray) (r16 : ByteArray) (w : World) (h : fsm_table.f  = some (r1, r2, r3, r4, r5, r6, r7, r8, r9, r10, r11, r12, r13, r14, r15, r16)) :
    Calls Tryd.prog 30 #[] w fun e w' => e = .returned (.agg #[.string r1, .string r2, .string r3, .string r4, .string r5, .string r6, .string r7, .string r8, .string r9, .string r10, .string r11, .string r12, .string r13, .string r14, .string r15, .string r16]) ∧ Below w.heap.size w w' := by
  have hu55 := Tryd.underlying55
  have HB := Aside0.mk (Below.refl w.heap.size w)
  have H : (some ((⟨#[50, 32, 105, 114, 54, 32, 45, 32, 45, 32, 45, 32, 45, 32, 45, 32, 45, 32, 45, 32, 45]⟩ : ByteArray), (⟨#[45, 32, 45, 32, 48, 32, 116, 49, 32, 48, 32, 49, 32, 49, 32, 49, 32, 49, 32, 100, 49]⟩ : ByteArray), (⟨#[116, 49, 32, 49, 32, 105, 114, 54, 32, 51, 32, 53, 32, 53, 32, 54, 32, 55, 32, 56, 32, 57]⟩ : ByteArray), (⟨#[48, 32, 102, 48, 32, 50, 32, 50, 32, 52, 32, 52, 32, 105, 115, 52, 32, 105, 115, 52, 32, 105, 115, 52, 32, 100, 105, 115, 52]⟩ : ByteArray), (⟨#[45, 32, 45, 32, 45, 32, 45, 32, 115, 52, 32, 115, 53, 32, 114, 54, 32, 114, 54, 32, 114, 56, 32, 45]⟩ : ByteArray), (⟨#[45, 32, 45, 32, 45, 32, 45, 32, 102, 50, 32, 102, 51, 32, 102, 51, 32, 102, 51, 32, 102, 51, 32, 45]⟩ : ByteArray), (⟨#[45, 32, 45, 32, 107, 50, 32, 105, 114, 97, 56, 32, 52, 32, 53, 32, 97, 56, 32, 97, 117, 57, 32, 97, 56, 32, 100, 114, 97, 56]⟩ : ByteArray), (⟨#[45, 32, 45, 32, 107, 50, 32, 105, 114, 110, 54, 32, 52, 32, 53, 32, 110, 54, 32, 110, 55, 32, 110, 54, 32, 100, 114, 110, 54]⟩ : ByteArray), (⟨#[45, 32, 45, 32, 107, 50, 32, 107, 51, 32, 52, 32, 53, 32, 105, 55, 32, 114, 54, 32, 105, 117, 57, 32, 100, 114, 54]⟩ : ByteArray), (⟨#[45, 32, 45, 32, 107, 50, 32, 107, 51, 32, 52, 32, 53, 32, 105, 114, 54, 32, 114, 54, 32, 105, 114, 56, 32, 100, 114, 54]⟩ : ByteArray), (⟨#[45, 32, 45, 32, 107, 50, 32, 107, 51, 32, 107, 52, 32, 107, 53, 32, 107, 54, 32, 107, 54, 32, 107, 54, 32, 100, 122, 107, 53]⟩ : ByteArray), (⟨#[45, 32, 45, 32, 50, 32, 51, 32, 102, 50, 32, 102, 51, 32, 54, 32, 54, 32, 56, 32, 100, 114, 54]⟩ : ByteArray), (⟨#[45, 32, 45, 32, 106, 50, 32, 106, 51, 32, 106, 52, 32, 106, 53, 32, 106, 54, 32, 106, 55, 32, 106, 56, 32, 106, 57]⟩ : ByteArray), (⟨#[45, 32, 45, 32, 50, 32, 51, 32, 52, 32, 53, 32, 54, 32, 54, 32, 56, 32, 57]⟩ : ByteArray), (⟨#[45, 32, 45, 32, 102, 50, 32, 102, 51, 32, 102, 50, 32, 102, 51, 32, 102, 51, 32, 102, 51, 32, 102, 51, 32, 100, 105, 115, 53]⟩ : ByteArray), (⟨#[45, 32, 45, 32, 50, 32, 51, 32, 52, 32, 53, 32, 54, 32, 55, 32, 56, 32, 101, 57]⟩ : ByteArray))) = some (r1, r2, r3, r4, r5, r6, r7, r8, r9, r10, r11, r12, r13, r14, r15, r16) := h
  clear h
  simp only [Option.some.injEq, Prod.mk.injEq] at H
  obtain ⟨rfl, rfl, rfl, rfl, rfl, rfl, rfl, rfl, rfl, rfl, rfl, rfl, rfl, rfl, rfl, rfl⟩ := H
  go_enter Tryd.func30, Tryd.ntmps30
  go_wp2_with (first | ((with_reducible refine gate_dst (N := 0) rfl ?_); refine box_event ?hg (N := 0) ?hd (cs := #[.string (⟨#[]⟩ : ByteArray), .string (⟨#[]⟩ : ByteArray), .string (⟨#[]⟩ : ByteArray), .string (⟨#[]⟩ : ByteArray), .string (⟨#[]⟩ : ByteArray), .string (⟨#[]⟩ : ByteArray), .string (⟨#[]⟩ : ByteArray), .string (⟨#[]⟩ : ByteArray), .string (⟨#[]⟩ : ByteArray), .string (⟨#[]⟩ : ByteArray), .string (⟨#[]⟩ : ByteArray), .string (⟨#[]⟩ : ByteArray), .string (⟨#[]⟩ : ByteArray), .string (⟨#[]⟩ : ByteArray), .string (⟨#[]⟩ : ByteArray), .string (⟨#[]⟩ : ByteArray)]) (t := 55) ?hr ?_; (case hd => rfl); (case hg => rfl); (case hr => first | (go_simp; done) | (go_simp; rfl)); intro gb106 hg w1 hbox hb; have n0_ := Aside0.mk (below_step (by repeat (first | (with_reducible first | exact HB.out | apply pA | apply pN | apply pD) | exact HB.out)) hb); have n1_ := Aside0.mk (hbox); have n2_ := Aside0.mk ((by rw [hg]; exact (below_size (by repeat (first | (with_reducible first | exact HB.out | apply pA | apply pN | apply pD) | exact HB.out))) : w.heap.size ≤ gb106)); have n3_ := Aside0.mk ((by rw [hg]; exact (below_size (by repeat (first | (with_reducible first | exact HB.out | apply pA | apply pN | apply pD) | exact HB.out))) : w.heap.size ≤ gb106)); clear HB; have HB := n0_; have BK106 := n1_; have GW106 := n2_; have GE106 := n3_; clear n0_ n1_ n2_ n3_; clear hb hbox hg; have hcz2_0 : w1.cell? ⟨gb106, 0, none⟩ = some (.string (⟨#[]⟩ : ByteArray)) := (blk_cell BK106.out 0).trans rfl; have hcz2_1 : w1.cell? ⟨gb106, 1, none⟩ = some (.string (⟨#[]⟩ : ByteArray)) := (blk_cell BK106.out 1).trans rfl; have hcz2_2 : w1.cell? ⟨gb106, 2, none⟩ = some (.string (⟨#[]⟩ : ByteArray)) := (blk_cell BK106.out 2).trans rfl; have hcz2_3 : w1.cell? ⟨gb106, 3, none⟩ = some (.string (⟨#[]⟩ : ByteArray)) := (blk_cell BK106.out 3).trans rfl; have hcz2_4 : w1.cell? ⟨gb106, 4, none⟩ = some (.string (⟨#[]⟩ : ByteArray)) := (blk_cell BK106.out 4).trans rfl; have hcz2_5 : w1.cell? ⟨gb106, 5, none⟩ = some (.string (⟨#[]⟩ : ByteArray)) := (blk_cell BK106.out 5).trans rfl; have hcz2_6 : w1.cell? ⟨gb106, 6, none⟩ = some (.string (⟨#[]⟩ : ByteArray)) := (blk_cell BK106.out 6).trans rfl; have hcz2_7 : w1.cell? ⟨gb106, 7, none⟩ = some (.string (⟨#[]⟩ : ByteArray)) := (blk_cell BK106.out 7).trans rfl; have hcz2_8 : w1.cell? ⟨gb106, 8, none⟩ = some (.string (⟨#[]⟩ : ByteArray)) := (blk_cell BK106.out 8).trans rfl; have hcz2_9 : w1.cell? ⟨gb106, 9, none⟩ = some (.string (⟨#[]⟩ : ByteArray)) := (blk_cell BK106.out 9).trans rfl; have hcz2_10 : w1.cell? ⟨gb106, 10, none⟩ = some (.string (⟨#[]⟩ : ByteArray)) := (blk_cell BK106.out 10).trans rfl; have hcz2_11 : w1.cell? ⟨gb106, 11, none⟩ = some (.string (⟨#[]⟩ : ByteArray)) := (blk_cell BK106.out 11).trans rfl; have hcz2_12 : w1.cell? ⟨gb106, 12, none⟩ = some (.string (⟨#[]⟩ : ByteArray)) := (blk_cell BK106.out 12).trans rfl; have hcz2_13 : w1.cell? ⟨gb106, 13, none⟩ = some (.string (⟨#[]⟩ : ByteArray)) := (blk_cell BK106.out 13).trans rfl; have hcz2_14 : w1.cell? ⟨gb106, 14, none⟩ = some (.string (⟨#[]⟩ : ByteArray)) := (blk_cell BK106.out 14).trans rfl; have hcz2_15 : w1.cell? ⟨gb106, 15, none⟩ = some (.string (⟨#[]⟩ : ByteArray)) := (blk_cell BK106.out 15).trans rfl; have hfz2_0 := blk_frozen BK106.out 0; have hfz2_1 := blk_frozen BK106.out 1; have hfz2_2 := blk_frozen BK106.out 2; have hfz2_3 := blk_frozen BK106.out 3; have hfz2_4 := blk_frozen BK106.out 4; have hfz2_5 := blk_frozen BK106.out 5; have hfz2_6 := blk_frozen BK106.out 6; have hfz2_7 := blk_frozen BK106.out 7; have hfz2_8 := blk_frozen BK106.out 8; have hfz2_9 := blk_frozen BK106.out 9; have hfz2_10 := blk_frozen BK106.out 10; have hfz2_11 := blk_frozen BK106.out 11; have hfz2_12 := blk_frozen BK106.out 12; have hfz2_13 := blk_frozen BK106.out 13; have hfz2_14 := blk_frozen BK106.out 14; have hfz2_15 := blk_frozen BK106.out 15))
  refine bodyPost_ret (results_cell_row rfl _ _ gb106 55 #[.string (⟨#[50, 32, 105, 114, 54, 32, 45, 32, 45, 32, 45, 32, 45, 32, 45, 32, 45, 32, 45, 32, 45]⟩ : ByteArray), .string (⟨#[45, 32, 45, 32, 48, 32, 116, 49, 32, 48, 32, 49, 32, 49, 32, 49, 32, 49, 32, 100, 49]⟩ : ByteArray), .string (⟨#[116, 49, 32, 49, 32, 105, 114, 54, 32, 51, 32, 53, 32, 53, 32, 54, 32, 55, 32, 56, 32, 57]⟩ : ByteArray), .string (⟨#[48, 32, 102, 48, 32, 50, 32, 50, 32, 52, 32, 52, 32, 105, 115, 52, 32, 105, 115, 52, 32, 105, 115, 52, 32, 100, 105, 115, 52]⟩ : ByteArray), .string (⟨#[45, 32, 45, 32, 45, 32, 45, 32, 115, 52, 32, 115, 53, 32, 114, 54, 32, 114, 54, 32, 114, 56, 32, 45]⟩ : ByteArray), .string (⟨#[45, 32, 45, 32, 45, 32, 45, 32, 102, 50, 32, 102, 51, 32, 102, 51, 32, 102, 51, 32, 102, 51, 32, 45]⟩ : ByteArray), .string (⟨#[45, 32, 45, 32, 107, 50, 32, 105, 114, 97, 56, 32, 52, 32, 53, 32, 97, 56, 32, 97, 117, 57, 32, 97, 56, 32, 100, 114, 97, 56]⟩ : ByteArray), .string (⟨#[45, 32, 45, 32, 107, 50, 32, 105, 114, 110, 54, 32, 52, 32, 53, 32, 110, 54, 32, 110, 55, 32, 110, 54, 32, 100, 114, 110, 54]⟩ : ByteArray), .string (⟨#[45, 32, 45, 32, 107, 50, 32, 107, 51, 32, 52, 32, 53, 32, 105, 55, 32, 114, 54, 32, 105, 117, 57, 32, 100, 114, 54]⟩ : ByteArray), .string (⟨#[45, 32, 45, 32, 107, 50, 32, 107, 51, 32, 52, 32, 53, 32, 105, 114, 54, 32, 114, 54, 32, 105, 114, 56, 32, 100, 114, 54]⟩ : ByteArray), .string (⟨#[45, 32, 45, 32, 107, 50, 32, 107, 51, 32, 107, 52, 32, 107, 53, 32, 107, 54, 32, 107, 54, 32, 107, 54, 32, 100, 122, 107, 53]⟩ : ByteArray), .string (⟨#[45, 32, 45, 32, 50, 32, 51, 32, 102, 50, 32, 102, 51, 32, 54, 32, 54, 32, 56, 32, 100, 114, 54]⟩ : ByteArray), .string (⟨#[45, 32, 45, 32, 106, 50, 32, 106, 51, 32, 106, 52, 32, 106, 53, 32, 106, 54, 32, 106, 55, 32, 106, 56, 32, 106, 57]⟩ : ByteArray), .string (⟨#[45, 32, 45, 32, 50, 32, 51, 32, 52, 32, 53, 32, 54, 32, 54, 32, 56, 32, 57]⟩ : ByteArray), .string (⟨#[45, 32, 45, 32, 102, 50, 32, 102, 51, 32, 102, 50, 32, 102, 51, 32, 102, 51, 32, 102, 51, 32, 102, 51, 32, 100, 105, 115, 53]⟩ : ByteArray), .string (⟨#[45, 32, 45, 32, 50, 32, 51, 32, 52, 32, 53, 32, 54, 32, 55, 32, 56, 32, 101, 57]⟩ : ByteArray)] (0, 0) _ rfl (by (with_reducible repeat (first | refine qN ?_ _ | refine qD ?_ | refine qA ?_ _)); refine blk_put (cs := #[.string (⟨#[50, 32, 105, 114, 54, 32, 45, 32, 45, 32, 45, 32, 45, 32, 45, 32, 45, 32, 45, 32, 45]⟩ : ByteArray), .string (⟨#[45, 32, 45, 32, 48, 32, 116, 49, 32, 48, 32, 49, 32, 49, 32, 49, 32, 49, 32, 100, 49]⟩ : ByteArray), .string (⟨#[116, 49, 32, 49, 32, 105, 114, 54, 32, 51, 32, 53, 32, 53, 32, 54, 32, 55, 32, 56, 32, 57]⟩ : ByteArray), .string (⟨#[48, 32, 102, 48, 32, 50, 32, 50, 32, 52, 32, 52, 32, 105, 115, 52, 32, 105, 115, 52, 32, 105, 115, 52, 32, 100, 105, 115, 52]⟩ : ByteArray), .string (⟨#[45, 32, 45, 32, 45, 32, 45, 32, 115, 52, 32, 115, 53, 32, 114, 54, 32, 114, 54, 32, 114, 56, 32, 45]⟩ : ByteArray), .string (⟨#[45, 32, 45, 32, 45, 32, 45, 32, 102, 50, 32, 102, 51, 32, 102, 51, 32, 102, 51, 32, 102, 51, 32, 45]⟩ : ByteArray), .string (⟨#[45, 32, 45, 32, 107, 50, 32, 105, 114, 97, 56, 32, 52, 32, 53, 32, 97, 56, 32, 97, 117, 57, 32, 97, 56, 32, 100, 114, 97, 56]⟩ : ByteArray), .string (⟨#[45, 32, 45, 32, 107, 50, 32, 105, 114, 110, 54, 32, 52, 32, 53, 32, 110, 54, 32, 110, 55, 32, 110, 54, 32, 100, 114, 110, 54]⟩ : ByteArray), .string (⟨#[45, 32, 45, 32, 107, 50, 32, 107, 51, 32, 52, 32, 53, 32, 105, 55, 32, 114, 54, 32, 105, 117, 57, 32, 100, 114, 54]⟩ : ByteArray), .string (⟨#[45, 32, 45, 32, 107, 50, 32, 107, 51, 32, 52, 32, 53, 32, 105, 114, 54, 32, 114, 54, 32, 105, 114, 56, 32, 100, 114, 54]⟩ : ByteArray), .string (⟨#[45, 32, 45, 32, 107, 50, 32, 107, 51, 32, 107, 52, 32, 107, 53, 32, 107, 54, 32, 107, 54, 32, 107, 54, 32, 100, 122, 107, 53]⟩ : ByteArray), .string (⟨#[45, 32, 45, 32, 50, 32, 51, 32, 102, 50, 32, 102, 51, 32, 54, 32, 54, 32, 56, 32, 100, 114, 54]⟩ : ByteArray), .string (⟨#[45, 32, 45, 32, 106, 50, 32, 106, 51, 32, 106, 52, 32, 106, 53, 32, 106, 54, 32, 106, 55, 32, 106, 56, 32, 106, 57]⟩ : ByteArray), .string (⟨#[45, 32, 45, 32, 50, 32, 51, 32, 52, 32, 53, 32, 54, 32, 54, 32, 56, 32, 57]⟩ : ByteArray), .string (⟨#[45, 32, 45, 32, 102, 50, 32, 102, 51, 32, 102, 50, 32, 102, 51, 32, 102, 51, 32, 102, 51, 32, 102, 51, 32, 100, 105, 115, 53]⟩ : ByteArray), .string (⟨#[]⟩ : ByteArray)]) ?_ 15 _ rfl; (with_reducible repeat (first | refine qN ?_ _ | refine qD ?_ | refine qA ?_ _)); refine blk_put (cs := #[.string (⟨#[50, 32, 105, 114, 54, 32, 45, 32, 45, 32, 45, 32, 45, 32, 45, 32, 45, 32, 45, 32, 45]⟩ : ByteArray), .string (⟨#[45, 32, 45, 32, 48, 32, 116, 49, 32, 48, 32, 49, 32, 49, 32, 49, 32, 49, 32, 100, 49]⟩ : ByteArray), .string (⟨#[116, 49, 32, 49, 32, 105, 114, 54, 32, 51, 32, 53, 32, 53, 32, 54, 32, 55, 32, 56, 32, 57]⟩ : ByteArray), .string (⟨#[48, 32, 102, 48, 32, 50, 32, 50, 32, 52, 32, 52, 32, 105, 115, 52, 32, 105, 115, 52, 32, 105, 115, 52, 32, 100, 105, 115, 52]⟩ : ByteArray), .string (⟨#[45, 32, 45, 32, 45, 32, 45, 32, 115, 52, 32, 115, 53, 32, 114, 54, 32, 114, 54, 32, 114, 56, 32, 45]⟩ : ByteArray), .string (⟨#[45, 32, 45, 32, 45, 32, 45, 32, 102, 50, 32, 102, 51, 32, 102, 51, 32, 102, 51, 32, 102, 51, 32, 45]⟩ : ByteArray), .string (⟨#[45, 32, 45, 32, 107, 50, 32, 105, 114, 97, 56, 32, 52, 32, 53, 32, 97, 56, 32, 97, 117, 57, 32, 97, 56, 32, 100, 114, 97, 56]⟩ : ByteArray), .string (⟨#[45, 32, 45, 32, 107, 50, 32, 105, 114, 110, 54, 32, 52, 32, 53, 32, 110, 54, 32, 110, 55, 32, 110, 54, 32, 100, 114, 110, 54]⟩ : ByteArray), .string (⟨#[45, 32, 45, 32, 107, 50, 32, 107, 51, 32, 52, 32, 53, 32, 105, 55, 32, 114, 54, 32, 105, 117, 57, 32, 100, 114, 54]⟩ : ByteArray), .string (⟨#[45, 32, 45, 32, 107, 50, 32, 107, 51, 32, 52, 32, 53, 32, 105, 114, 54, 32, 114, 54, 32, 105, 114, 56, 32, 100, 114, 54]⟩ : ByteArray), .string (⟨#[45, 32, 45, 32, 107, 50, 32, 107, 51, 32, 107, 52, 32, 107, 53, 32, 107, 54, 32, 107, 54, 32, 107, 54, 32, 100, 122, 107, 53]⟩ : ByteArray), .string (⟨#[45, 32, 45, 32, 50, 32, 51, 32, 102, 50, 32, 102, 51, 32, 54, 32, 54, 32, 56, 32, 100, 114, 54]⟩ : ByteArray), .string (⟨#[45, 32, 45, 32, 106, 50, 32, 106, 51, 32, 106, 52, 32, 106, 53, 32, 106, 54, 32, 106, 55, 32, 106, 56, 32, 106, 57]⟩ : ByteArray), .string (⟨#[45, 32, 45, 32, 50, 32, 51, 32, 52, 32, 53, 32, 54, 32, 54, 32, 56, 32, 57]⟩ : ByteArray), .string (⟨#[]⟩ : ByteArray), .string (⟨#[]⟩ : ByteArray)]) ?_ 14 _ rfl; (with_reducible repeat (first | refine qN ?_ _ | refine qD ?_ | refine qA ?_ _)); refine blk_put (cs := #[.string (⟨#[50, 32, 105, 114, 54, 32, 45, 32, 45, 32, 45, 32, 45, 32, 45, 32, 45, 32, 45, 32, 45]⟩ : ByteArray), .string (⟨#[45, 32, 45, 32, 48, 32, 116, 49, 32, 48, 32, 49, 32, 49, 32, 49, 32, 49, 32, 100, 49]⟩ : ByteArray), .string (⟨#[116, 49, 32, 49, 32, 105, 114, 54, 32, 51, 32, 53, 32, 53, 32, 54, 32, 55, 32, 56, 32, 57]⟩ : ByteArray), .string (⟨#[48, 32, 102, 48, 32, 50, 32, 50, 32, 52, 32, 52, 32, 105, 115, 52, 32, 105, 115, 52, 32, 105, 115, 52, 32, 100, 105, 115, 52]⟩ : ByteArray), .string (⟨#[45, 32, 45, 32, 45, 32, 45, 32, 115, 52, 32, 115, 53, 32, 114, 54, 32, 114, 54, 32, 114, 56, 32, 45]⟩ : ByteArray), .string (⟨#[45, 32, 45, 32, 45, 32, 45, 32, 102, 50, 32, 102, 51, 32, 102, 51, 32, 102, 51, 32, 102, 51, 32, 45]⟩ : ByteArray), .string (⟨#[45, 32, 45, 32, 107, 50, 32, 105, 114, 97, 56, 32, 52, 32, 53, 32, 97, 56, 32, 97, 117, 57, 32, 97, 56, 32, 100, 114, 97, 56]⟩ : ByteArray), .string (⟨#[45, 32, 45, 32, 107, 50, 32, 105, 114, 110, 54, 32, 52, 32, 53, 32, 110, 54, 32, 110, 55, 32, 110, 54, 32, 100, 114, 110, 54]⟩ : ByteArray), .string (⟨#[45, 32, 45, 32, 107, 50, 32, 107, 51, 32, 52, 32, 53, 32, 105, 55, 32, 114, 54, 32, 105, 117, 57, 32, 100, 114, 54]⟩ : ByteArray), .string (⟨#[45, 32, 45, 32, 107, 50, 32, 107, 51, 32, 52, 32, 53, 32, 105, 114, 54, 32, 114, 54, 32, 105, 114, 56, 32, 100, 114, 54]⟩ : ByteArray), .string (⟨#[45, 32, 45, 32, 107, 50, 32, 107, 51, 32, 107, 52, 32, 107, 53, 32, 107, 54, 32, 107, 54, 32, 107, 54, 32, 100, 122, 107, 53]⟩ : ByteArray), .string (⟨#[45, 32, 45, 32, 50, 32, 51, 32, 102, 50, 32, 102, 51, 32, 54, 32, 54, 32, 56, 32, 100, 114, 54]⟩ : ByteArray), .string (⟨#[45, 32, 45, 32, 106, 50, 32, 106, 51, 32, 106, 52, 32, 106, 53, 32, 106, 54, 32, 106, 55, 32, 106, 56, 32, 106, 57]⟩ : ByteArray), .string (⟨#[]⟩ : ByteArray), .string (⟨#[]⟩ : ByteArray), .string (⟨#[]⟩ : ByteArray)]) ?_ 13 _ rfl; (with_reducible repeat (first | refine qN ?_ _ | refine qD ?_ | refine qA ?_ _)); refine blk_put (cs := #[.string (⟨#[50, 32, 105, 114, 54, 32, 45, 32, 45, 32, 45, 32, 45, 32, 45, 32, 45, 32, 45, 32, 45]⟩ : ByteArray), .string (⟨#[45, 32, 45, 32, 48, 32, 116, 49, 32, 48, 32, 49, 32, 49, 32, 49, 32, 49, 32, 100, 49]⟩ : ByteArray), .string (⟨#[116, 49, 32, 49, 32, 105, 114, 54, 32, 51, 32, 53, 32, 53, 32, 54, 32, 55, 32, 56, 32, 57]⟩ : ByteArray), .string (⟨#[48, 32, 102, 48, 32, 50, 32, 50, 32, 52, 32, 52, 32, 105, 115, 52, 32, 105, 115, 52, 32, 105, 115, 52, 32, 100, 105, 115, 52]⟩ : ByteArray), .string (⟨#[45, 32, 45, 32, 45, 32, 45, 32, 115, 52, 32, 115, 53, 32, 114, 54, 32, 114, 54, 32, 114, 56, 32, 45]⟩ : ByteArray), .string (⟨#[45, 32, 45, 32, 45, 32, 45, 32, 102, 50, 32, 102, 51, 32, 102, 51, 32, 102, 51, 32, 102, 51, 32, 45]⟩ : ByteArray), .string (⟨#[45, 32, 45, 32, 107, 50, 32, 105, 114, 97, 56, 32, 52, 32, 53, 32, 97, 56, 32, 97, 117, 57, 32, 97, 56, 32, 100, 114, 97, 56]⟩ : ByteArray), .string (⟨#[45, 32, 45, 32, 107, 50, 32, 105, 114, 110, 54, 32, 52, 32, 53, 32, 110, 54, 32, 110, 55, 32, 110, 54, 32, 100, 114, 110, 54]⟩ : ByteArray), .string (⟨#[45, 32, 45, 32, 107, 50, 32, 107, 51, 32, 52, 32, 53, 32, 105, 55, 32, 114, 54, 32, 105, 117, 57, 32, 100, 114, 54]⟩ : ByteArray), .string (⟨#[45, 32, 45, 32, 107, 50, 32, 107, 51, 32, 52, 32, 53, 32, 105, 114, 54, 32, 114, 54, 32, 105, 114, 56, 32, 100, 114, 54]⟩ : ByteArray), .string (⟨#[45, 32, 45, 32, 107, 50, 32, 107, 51, 32, 107, 52, 32, 107, 53, 32, 107, 54, 32, 107, 54, 32, 107, 54, 32, 100, 122, 107, 53]⟩ : ByteArray), .string (⟨#[45, 32, 45, 32, 50, 32, 51, 32, 102, 50, 32, 102, 51, 32, 54, 32, 54, 32, 56, 32, 100, 114, 54]⟩ : ByteArray), .string (⟨#[]⟩ : ByteArray), .string (⟨#[]⟩ : ByteArray), .string (⟨#[]⟩ : ByteArray), .string (⟨#[]⟩ : ByteArray)]) ?_ 12 _ rfl; (with_reducible repeat (first | refine qN ?_ _ | refine qD ?_ | refine qA ?_ _)); refine blk_put (cs := #[.string (⟨#[50, 32, 105, 114, 54, 32, 45, 32, 45, 32, 45, 32, 45, 32, 45, 32, 45, 32, 45, 32, 45]⟩ : ByteArray), .string (⟨#[45, 32, 45, 32, 48, 32, 116, 49, 32, 48, 32, 49, 32, 49, 32, 49, 32, 49, 32, 100, 49]⟩ : ByteArray), .string (⟨#[116, 49, 32, 49, 32, 105, 114, 54, 32, 51, 32, 53, 32, 53, 32, 54, 32, 55, 32, 56, 32, 57]⟩ : ByteArray), .string (⟨#[48, 32, 102, 48, 32, 50, 32, 50, 32, 52, 32, 52, 32, 105, 115, 52, 32, 105, 115, 52, 32, 105, 115, 52, 32, 100, 105, 115, 52]⟩ : ByteArray), .string (⟨#[45, 32, 45, 32, 45, 32, 45, 32, 115, 52, 32, 115, 53, 32, 114, 54, 32, 114, 54, 32, 114, 56, 32, 45]⟩ : ByteArray), .string (⟨#[45, 32, 45, 32, 45, 32, 45, 32, 102, 50, 32, 102, 51, 32, 102, 51, 32, 102, 51, 32, 102, 51, 32, 45]⟩ : ByteArray), .string (⟨#[45, 32, 45, 32, 107, 50, 32, 105, 114, 97, 56, 32, 52, 32, 53, 32, 97, 56, 32, 97, 117, 57, 32, 97, 56, 32, 100, 114, 97, 56]⟩ : ByteArray), .string (⟨#[45, 32, 45, 32, 107, 50, 32, 105, 114, 110, 54, 32, 52, 32, 53, 32, 110, 54, 32, 110, 55, 32, 110, 54, 32, 100, 114, 110, 54]⟩ : ByteArray), .string (⟨#[45, 32, 45, 32, 107, 50, 32, 107, 51, 32, 52, 32, 53, 32, 105, 55, 32, 114, 54, 32, 105, 117, 57, 32, 100, 114, 54]⟩ : ByteArray), .string (⟨#[45, 32, 45, 32, 107, 50, 32, 107, 51, 32, 52, 32, 53, 32, 105, 114, 54, 32, 114, 54, 32, 105, 114, 56, 32, 100, 114, 54]⟩ : ByteArray), .string (⟨#[45, 32, 45, 32, 107, 50, 32, 107, 51, 32, 107, 52, 32, 107, 53, 32, 107, 54, 32, 107, 54, 32, 107, 54, 32, 100, 122, 107, 53]⟩ : ByteArray), .string (⟨#[]⟩ : ByteArray), .string (⟨#[]⟩ : ByteArray), .string (⟨#[]⟩ : ByteArray), .string (⟨#[]⟩ : ByteArray), .string (⟨#[]⟩ : ByteArray)]) ?_ 11 _ rfl; (with_reducible repeat (first | refine qN ?_ _ | refine qD ?_ | refine qA ?_ _)); refine blk_put (cs := #[.string (⟨#[50, 32, 105, 114, 54, 32, 45, 32, 45, 32, 45, 32, 45, 32, 45, 32, 45, 32, 45, 32, 45]⟩ : ByteArray), .string (⟨#[45, 32, 45, 32, 48, 32, 116, 49, 32, 48, 32, 49, 32, 49, 32, 49, 32, 49, 32, 100, 49]⟩ : ByteArray), .string (⟨#[116, 49, 32, 49, 32, 105, 114, 54, 32, 51, 32, 53, 32, 53, 32, 54, 32, 55, 32, 56, 32, 57]⟩ : ByteArray), .string (⟨#[48, 32, 102, 48, 32, 50, 32, 50, 32, 52, 32, 52, 32, 105, 115, 52, 32, 105, 115, 52, 32, 105, 115, 52, 32, 100, 105, 115, 52]⟩ : ByteArray), .string (⟨#[45, 32, 45, 32, 45, 32, 45, 32, 115, 52, 32, 115, 53, 32, 114, 54, 32, 114, 54, 32, 114, 56, 32, 45]⟩ : ByteArray), .string (⟨#[45, 32, 45, 32, 45, 32, 45, 32, 102, 50, 32, 102, 51, 32, 102, 51, 32, 102, 51, 32, 102, 51, 32, 45]⟩ : ByteArray), .string (⟨#[45, 32, 45, 32, 107, 50, 32, 105, 114, 97, 56, 32, 52, 32, 53, 32, 97, 56, 32, 97, 117, 57, 32, 97, 56, 32, 100, 114, 97, 56]⟩ : ByteArray), .string (⟨#[45, 32, 45, 32, 107, 50, 32, 105, 114, 110, 54, 32, 52, 32, 53, 32, 110, 54, 32, 110, 55, 32, 110, 54, 32, 100, 114, 110, 54]⟩ : ByteArray), .string (⟨#[45, 32, 45, 32, 107, 50, 32, 107, 51, 32, 52, 32, 53, 32, 105, 55, 32, 114, 54, 32, 105, 117, 57, 32, 100, 114, 54]⟩ : ByteArray), .string (⟨#[45, 32, 45, 32, 107, 50, 32, 107, 51, 32, 52, 32, 53, 32, 105, 114, 54, 32, 114, 54, 32, 105, 114, 56, 32, 100, 114, 54]⟩ : ByteArray), .string (⟨#[]⟩ : ByteArray), .string (⟨#[]⟩ : ByteArray), .string (⟨#[]⟩ : ByteArray), .string (⟨#[]⟩ : ByteArray), .string (⟨#[]⟩ : ByteArray), .string (⟨#[]⟩ : ByteArray)]) ?_ 10 _ rfl; (with_reducible repeat (first | refine qN ?_ _ | refine qD ?_ | refine qA ?_ _)); refine blk_put (cs := #[.string (⟨#[50, 32, 105, 114, 54, 32, 45, 32, 45, 32, 45, 32, 45, 32, 45, 32, 45, 32, 45, 32, 45]⟩ : ByteArray), .string (⟨#[45, 32, 45, 32, 48, 32, 116, 49, 32, 48, 32, 49, 32, 49, 32, 49, 32, 49, 32, 100, 49]⟩ : ByteArray), .string (⟨#[116, 49, 32, 49, 32, 105, 114, 54, 32, 51, 32, 53, 32, 53, 32, 54, 32, 55, 32, 56, 32, 57]⟩ : ByteArray), .string (⟨#[48, 32, 102, 48, 32, 50, 32, 50, 32, 52, 32, 52, 32, 105, 115, 52, 32, 105, 115, 52, 32, 105, 115, 52, 32, 100, 105, 115, 52]⟩ : ByteArray), .string (⟨#[45, 32, 45, 32, 45, 32, 45, 32, 115, 52, 32, 115, 53, 32, 114, 54, 32, 114, 54, 32, 114, 56, 32, 45]⟩ : ByteArray), .string (⟨#[45, 32, 45, 32, 45, 32, 45, 32, 102, 50, 32, 102, 51, 32, 102, 51, 32, 102, 51, 32, 102, 51, 32, 45]⟩ : ByteArray), .string (⟨#[45, 32, 45, 32, 107, 50, 32, 105, 114, 97, 56, 32, 52, 32, 53, 32, 97, 56, 32, 97, 117, 57, 32, 97, 56, 32, 100, 114, 97, 56]⟩ : ByteArray), .string (⟨#[45, 32, 45, 32, 107, 50, 32, 105, 114, 110, 54, 32, 52, 32, 53, 32, 110, 54, 32, 110, 55, 32, 110, 54, 32, 100, 114, 110, 54]⟩ : ByteArray), .string (⟨#[45, 32, 45, 32, 107, 50, 32, 107, 51, 32, 52, 32, 53, 32, 105, 55, 32, 114, 54, 32, 105, 117, 57, 32, 100, 114, 54]⟩ : ByteArray), .string (⟨#[]⟩ : ByteArray), .string (⟨#[]⟩ : ByteArray), .string (⟨#[]⟩ : ByteArray), .string (⟨#[]⟩ : ByteArray), .string (⟨#[]⟩ : ByteArray), .string (⟨#[]⟩ : ByteArray), .string (⟨#[]⟩ : ByteArray)]) ?_ 9 _ rfl; (with_reducible repeat (first | refine qN ?_ _ | refine qD ?_ | refine qA ?_ _)); refine blk_put (cs := #[.string (⟨#[50, 32, 105, 114, 54, 32, 45, 32, 45, 32, 45, 32, 45, 32, 45, 32, 45, 32, 45, 32, 45]⟩ : ByteArray), .string (⟨#[45, 32, 45, 32, 48, 32, 116, 49, 32, 48, 32, 49, 32, 49, 32, 49, 32, 49, 32, 100, 49]⟩ : ByteArray), .string (⟨#[116, 49, 32, 49, 32, 105, 114, 54, 32, 51, 32, 53, 32, 53, 32, 54, 32, 55, 32, 56, 32, 57]⟩ : ByteArray), .string (⟨#[48, 32, 102, 48, 32, 50, 32, 50, 32, 52, 32, 52, 32, 105, 115, 52, 32, 105, 115, 52, 32, 105, 115, 52, 32, 100, 105, 115, 52]⟩ : ByteArray), .string (⟨#[45, 32, 45, 32, 45, 32, 45, 32, 115, 52, 32, 115, 53, 32, 114, 54, 32, 114, 54, 32, 114, 56, 32, 45]⟩ : ByteArray), .string (⟨#[45, 32, 45, 32, 45, 32, 45, 32, 102, 50, 32, 102, 51, 32, 102, 51, 32, 102, 51, 32, 102, 51, 32, 45]⟩ : ByteArray), .string (⟨#[45, 32, 45, 32, 107, 50, 32, 105, 114, 97, 56, 32, 52, 32, 53, 32, 97, 56, 32, 97, 117, 57, 32, 97, 56, 32, 100, 114, 97, 56]⟩ : ByteArray), .string (⟨#[45, 32, 45, 32, 107, 50, 32, 105, 114, 110, 54, 32, 52, 32, 53, 32, 110, 54, 32, 110, 55, 32, 110, 54, 32, 100, 114, 110, 54]⟩ : ByteArray), .string (⟨#[]⟩ : ByteArray), .string (⟨#[]⟩ : ByteArray), .string (⟨#[]⟩ : ByteArray), .string (⟨#[]⟩ : ByteArray), .string (⟨#[]⟩ : ByteArray), .string (⟨#[]⟩ : ByteArray), .string (⟨#[]⟩ : ByteArray), .string (⟨#[]⟩ : ByteArray)]) ?_ 8 _ rfl; (with_reducible repeat (first | refine qN ?_ _ | refine qD ?_ | refine qA ?_ _)); refine blk_put (cs := #[.string (⟨#[50, 32, 105, 114, 54, 32, 45, 32, 45, 32, 45, 32, 45, 32, 45, 32, 45, 32, 45, 32, 45]⟩ : ByteArray), .string (⟨#[45, 32, 45, 32, 48, 32, 116, 49, 32, 48, 32, 49, 32, 49, 32, 49, 32, 49, 32, 100, 49]⟩ : ByteArray), .string (⟨#[116, 49, 32, 49, 32, 105, 114, 54, 32, 51, 32, 53, 32, 53, 32, 54, 32, 55, 32, 56, 32, 57]⟩ : ByteArray), .string (⟨#[48, 32, 102, 48, 32, 50, 32, 50, 32, 52, 32, 52, 32, 105, 115, 52, 32, 105, 115, 52, 32, 105, 115, 52, 32, 100, 105, 115, 52]⟩ : ByteArray), .string (⟨#[45, 32, 45, 32, 45, 32, 45, 32, 115, 52, 32, 115, 53, 32, 114, 54, 32, 114, 54, 32, 114, 56, 32, 45]⟩ : ByteArray), .string (⟨#[45, 32, 45, 32, 45, 32, 45, 32, 102, 50, 32, 102, 51, 32, 102, 51, 32, 102, 51, 32, 102, 51, 32, 45]⟩ : ByteArray), .string (⟨#[45, 32, 45, 32, 107, 50, 32, 105, 114, 97, 56, 32, 52, 32, 53, 32, 97, 56, 32, 97, 117, 57, 32, 97, 56, 32, 100, 114, 97, 56]⟩ : ByteArray), .string (⟨#[]⟩ : ByteArray), .string (⟨#[]⟩ : ByteArray), .string (⟨#[]⟩ : ByteArray), .string (⟨#[]⟩ : ByteArray), .string (⟨#[]⟩ : ByteArray), .string (⟨#[]⟩ : ByteArray), .string (⟨#[]⟩ : ByteArray), .string (⟨#[]⟩ : ByteArray), .string (⟨#[]⟩ : ByteArray)]) ?_ 7 _ rfl; (with_reducible repeat (first | refine qN ?_ _ | refine qD ?_ | refine qA ?_ _)); refine blk_put (cs := #[.string (⟨#[50, 32, 105, 114, 54, 32, 45, 32, 45, 32, 45, 32, 45, 32, 45, 32, 45, 32, 45, 32, 45]⟩ : ByteArray), .string (⟨#[45, 32, 45, 32, 48, 32, 116, 49, 32, 48, 32, 49, 32, 49, 32, 49, 32, 49, 32, 100, 49]⟩ : ByteArray), .string (⟨#[116, 49, 32, 49, 32, 105, 114, 54, 32, 51, 32, 53, 32, 53, 32, 54, 32, 55, 32, 56, 32, 57]⟩ : ByteArray), .string (⟨#[48, 32, 102, 48, 32, 50, 32, 50, 32, 52, 32, 52, 32, 105, 115, 52, 32, 105, 115, 52, 32, 105, 115, 52, 32, 100, 105, 115, 52]⟩ : ByteArray), .string (⟨#[45, 32, 45, 32, 45, 32, 45, 32, 115, 52, 32, 115, 53, 32, 114, 54, 32, 114, 54, 32, 114, 56, 32, 45]⟩ : ByteArray), .string (⟨#[45, 32, 45, 32, 45, 32, 45, 32, 102, 50, 32, 102, 51, 32, 102, 51, 32, 102, 51, 32, 102, 51, 32, 45]⟩ : ByteArray), .string (⟨#[]⟩ : ByteArray), .string (⟨#[]⟩ : ByteArray), .string (⟨#[]⟩ : ByteArray), .string (⟨#[]⟩ : ByteArray), .string (⟨#[]⟩ : ByteArray), .string (⟨#[]⟩ : ByteArray), .string (⟨#[]⟩ : ByteArray), .string (⟨#[]⟩ : ByteArray), .string (⟨#[]⟩ : ByteArray), .string (⟨#[]⟩ : ByteArray)]) ?_ 6 _ rfl; (with_reducible repeat (first | refine qN ?_ _ | refine qD ?_ | refine qA ?_ _)); refine blk_put (cs := #[.string (⟨#[50, 32, 105, 114, 54, 32, 45, 32, 45, 32, 45, 32, 45, 32, 45, 32, 45, 32, 45, 32, 45]⟩ : ByteArray), .string (⟨#[45, 32, 45, 32, 48, 32, 116, 49, 32, 48, 32, 49, 32, 49, 32, 49, 32, 49, 32, 100, 49]⟩ : ByteArray), .string (⟨#[116, 49, 32, 49, 32, 105, 114, 54, 32, 51, 32, 53, 32, 53, 32, 54, 32, 55, 32, 56, 32, 57]⟩ : ByteArray), .string (⟨#[48, 32, 102, 48, 32, 50, 32, 50, 32, 52, 32, 52, 32, 105, 115, 52, 32, 105, 115, 52, 32, 105, 115, 52, 32, 100, 105, 115, 52]⟩ : ByteArray), .string (⟨#[45, 32, 45, 32, 45, 32, 45, 32, 115, 52, 32, 115, 53, 32, 114, 54, 32, 114, 54, 32, 114, 56, 32, 45]⟩ : ByteArray), .string (⟨#[]⟩ : ByteArray), .string (⟨#[]⟩ : ByteArray), .string (⟨#[]⟩ : ByteArray), .string (⟨#[]⟩ : ByteArray), .string (⟨#[]⟩ : ByteArray), .string (⟨#[]⟩ : ByteArray), .string (⟨#[]⟩ : ByteArray), .string (⟨#[]⟩ : ByteArray), .string (⟨#[]⟩ : ByteArray), .string (⟨#[]⟩ : ByteArray), .string (⟨#[]⟩ : ByteArray)]) ?_ 5 _ rfl; (with_reducible repeat (first | refine qN ?_ _ | refine qD ?_ | refine qA ?_ _)); refine blk_put (cs := #[.string (⟨#[50, 32, 105, 114, 54, 32, 45, 32, 45, 32, 45, 32, 45, 32, 45, 32, 45, 32, 45, 32, 45]⟩ : ByteArray), .string (⟨#[45, 32, 45, 32, 48, 32, 116, 49, 32, 48, 32, 49, 32, 49, 32, 49, 32, 49, 32, 100, 49]⟩ : ByteArray), .string (⟨#[116, 49, 32, 49, 32, 105, 114, 54, 32, 51, 32, 53, 32, 53, 32, 54, 32, 55, 32, 56, 32, 57]⟩ : ByteArray), .string (⟨#[48, 32, 102, 48, 32, 50, 32, 50, 32, 52, 32, 52, 32, 105, 115, 52, 32, 105, 115, 52, 32, 105, 115, 52, 32, 100, 105, 115, 52]⟩ : ByteArray), .string (⟨#[]⟩ : ByteArray), .string (⟨#[]⟩ : ByteArray), .string (⟨#[]⟩ : ByteArray), .string (⟨#[]⟩ : ByteArray), .string (⟨#[]⟩ : ByteArray), .string (⟨#[]⟩ : ByteArray), .string (⟨#[]⟩ : ByteArray), .string (⟨#[]⟩ : ByteArray), .string (⟨#[]⟩ : ByteArray), .string (⟨#[]⟩ : ByteArray), .string (⟨#[]⟩ : ByteArray), .string (⟨#[]⟩ : ByteArray)]) ?_ 4 _ rfl; (with_reducible repeat (first | refine qN ?_ _ | refine qD ?_ | refine qA ?_ _)); refine blk_put (cs := #[.string (⟨#[50, 32, 105, 114, 54, 32, 45, 32, 45, 32, 45, 32, 45, 32, 45, 32, 45, 32, 45, 32, 45]⟩ : ByteArray), .string (⟨#[45, 32, 45, 32, 48, 32, 116, 49, 32, 48, 32, 49, 32, 49, 32, 49, 32, 49, 32, 100, 49]⟩ : ByteArray), .string (⟨#[116, 49, 32, 49, 32, 105, 114, 54, 32, 51, 32, 53, 32, 53, 32, 54, 32, 55, 32, 56, 32, 57]⟩ : ByteArray), .string (⟨#[]⟩ : ByteArray), .string (⟨#[]⟩ : ByteArray), .string (⟨#[]⟩ : ByteArray), .string (⟨#[]⟩ : ByteArray), .string (⟨#[]⟩ : ByteArray), .string (⟨#[]⟩ : ByteArray), .string (⟨#[]⟩ : ByteArray), .string (⟨#[]⟩ : ByteArray), .string (⟨#[]⟩ : ByteArray), .string (⟨#[]⟩ : ByteArray), .string (⟨#[]⟩ : ByteArray), .string (⟨#[]⟩ : ByteArray), .string (⟨#[]⟩ : ByteArray)]) ?_ 3 _ rfl; (with_reducible repeat (first | refine qN ?_ _ | refine qD ?_ | refine qA ?_ _)); refine blk_put (cs := #[.string (⟨#[50, 32, 105, 114, 54, 32, 45, 32, 45, 32, 45, 32, 45, 32, 45, 32, 45, 32, 45, 32, 45]⟩ : ByteArray), .string (⟨#[45, 32, 45, 32, 48, 32, 116, 49, 32, 48, 32, 49, 32, 49, 32, 49, 32, 49, 32, 100, 49]⟩ : ByteArray), .string (⟨#[]⟩ : ByteArray), .string (⟨#[]⟩ : ByteArray), .string (⟨#[]⟩ : ByteArray), .string (⟨#[]⟩ : ByteArray), .string (⟨#[]⟩ : ByteArray), .string (⟨#[]⟩ : ByteArray), .string (⟨#[]⟩ : ByteArray), .string (⟨#[]⟩ : ByteArray), .string (⟨#[]⟩ : ByteArray), .string (⟨#[]⟩ : ByteArray), .string (⟨#[]⟩ : ByteArray), .string (⟨#[]⟩ : ByteArray), .string (⟨#[]⟩ : ByteArray), .string (⟨#[]⟩ : ByteArray)]) ?_ 2 _ rfl; (with_reducible repeat (first | refine qN ?_ _ | refine qD ?_ | refine qA ?_ _)); refine blk_put (cs := #[.string (⟨#[50, 32, 105, 114, 54, 32, 45, 32, 45, 32, 45, 32, 45, 32, 45, 32, 45, 32, 45, 32, 45]⟩ : ByteArray), .string (⟨#[]⟩ : ByteArray), .string (⟨#[]⟩ : ByteArray), .string (⟨#[]⟩ : ByteArray), .string (⟨#[]⟩ : ByteArray), .string (⟨#[]⟩ : ByteArray), .string (⟨#[]⟩ : ByteArray), .string (⟨#[]⟩ : ByteArray), .string (⟨#[]⟩ : ByteArray), .string (⟨#[]⟩ : ByteArray), .string (⟨#[]⟩ : ByteArray), .string (⟨#[]⟩ : ByteArray), .string (⟨#[]⟩ : ByteArray), .string (⟨#[]⟩ : ByteArray), .string (⟨#[]⟩ : ByteArray), .string (⟨#[]⟩ : ByteArray)]) ?_ 1 _ rfl; (with_reducible repeat (first | refine qN ?_ _ | refine qD ?_ | refine qA ?_ _)); refine blk_put (cs := #[.string (⟨#[]⟩ : ByteArray), .string (⟨#[]⟩ : ByteArray), .string (⟨#[]⟩ : ByteArray), .string (⟨#[]⟩ : ByteArray), .string (⟨#[]⟩ : ByteArray), .string (⟨#[]⟩ : ByteArray), .string (⟨#[]⟩ : ByteArray), .string (⟨#[]⟩ : ByteArray), .string (⟨#[]⟩ : ByteArray), .string (⟨#[]⟩ : ByteArray), .string (⟨#[]⟩ : ByteArray), .string (⟨#[]⟩ : ByteArray), .string (⟨#[]⟩ : ByteArray), .string (⟨#[]⟩ : ByteArray), .string (⟨#[]⟩ : ByteArray), .string (⟨#[]⟩ : ByteArray)]) ?_ 0 _ rfl; (with_reducible repeat (first | refine qN ?_ _ | refine qD ?_ | refine qA ?_ _)); exact BK106.out) Tryd.underlying55 rfl (by kernel_rfl)) rfl ?_
  exact ⟨by first | rfl | (simp [errW_none, errW_some] <;> rfl) | (simp [*, errW_none, errW_some] <;> rfl), by repeat (first | (with_reducible first | exact HB.out | apply pA | apply pN | apply pD | refine pS ?_ GE106.out) | exact HB.out)⟩

end Go.Proofs.YtoenogjedmnnlaaDoor.Q

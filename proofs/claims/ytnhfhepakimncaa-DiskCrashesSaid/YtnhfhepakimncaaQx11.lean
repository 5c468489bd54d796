-- written by this session's own program (wip/tools/myprint.py), over the kit's print
import Derived.Test.YtnhfhepakimncaaQx0
namespace Go.Proofs.Ytnhfhepakimncaa.Q
open Go.RowKit Go.Proofs.YtnhfhepakimncaaW.PrintWords Go.Proofs.YtnhfhepakimncaaW.PrintLast Go.Proofs.YtnhfhepakimncaaW.PrintMore
open Go.Proofs.YtnhfhepakimncaaV
attribute [local go_sem] max2_int min2_int max_two min_two max_three min_three max_four min_four   -- for this text's walks alone
set_option linter.unusedVariables false
set_option linter.unusedSimpArgs false

/-! ### portreeveref03_Read: function 15 -/
mutual
def portreeveref03_Read.j0 : Nat → Int → Bool → List (List Int) → List (S47) → Option (List Int × Int)
  | 0, _, _, _, _ => none
  | k + 1, x1, x19, x248000, x248001 => if x19 = true then (some (([] : List Int), 1)) else (portreeveref03_Read.l0 k x1 (wrap64 ((x248001.length : Int) - 1)) x248000 x248001)
def portreeveref03_Read.l0 : Nat → Int → Int → List (List Int) → List (S47) → Option (List Int × Int)
  | 0, _, _, _, _ => none
  | k + 1, x1, x6, x248000, x248001 => if x6 ≥ 0 then (if 0 ≤ x6 then (if x6 < (x248001.length : Int) then (if ((rd_T47 x248001 x6).f0) = x1 then (some ((rd_T47 x248001 x6).f1, 0)) else (portreeveref03_Read.l0 k x1 (wrap64 (x6 - 1)) x248000 x248001)) else (none)) else (none)) else (if 0 ≤ x1 then (if x1 < (x248000.length : Int) then (some (rd_L2 x248000 x1, 0)) else (none)) else (none))
end
def portreeveref03_Read.f (k : Nat) (l0_0 : List (List Int)) (l0_1 : List (S47)) (a1 : Int) : Option (List Int × Int) := if a1 < 0 then (portreeveref03_Read.j0 k a1 true l0_0 l0_1) else (if a1 > 63 then (portreeveref03_Read.j0 k a1 true l0_0 l0_1) else (portreeveref03_Read.j0 k a1 (decide (a1 ≥ (l0_0.length : Int))) l0_0 l0_1))
theorem portreeveref03_Read.mono_l : ∀ k, (∀ y0 y1 y2 y3, LeO (portreeveref03_Read.j0 k y0 y1 y2 y3) (portreeveref03_Read.j0 (k + 1) y0 y1 y2 y3)) ∧ (∀ y0 y1 y2 y3, LeO (portreeveref03_Read.l0 k y0 y1 y2 y3) (portreeveref03_Read.l0 (k + 1) y0 y1 y2 y3))
  | 0 => ⟨fun _ _ _ _ r h => by simp [portreeveref03_Read.j0] at h, fun _ _ _ _ r h => by simp [portreeveref03_Read.l0] at h⟩
  | k + 1 => by
    obtain ⟨ih0, ih1⟩ := portreeveref03_Read.mono_l k
    refine ⟨?_, ?_⟩
    · intro y0 y1 y2 y3
      unfold portreeveref03_Read.j0
      repeat' first
      | (with_reducible exact ih0 _ _ _ _)
      | (with_reducible exact ih1 _ _ _ _)
      | (with_reducible exact LeO.refl _)
      | (with_reducible exact LeO.none _)
      | (with_reducible refine LeO.ite ?_ ?_)
      | (with_reducible refine LeO.bind ?_ (fun _ => ?_))
      | exact ih0 _ _ _ _
      | exact ih1 _ _ _ _
      | exact LeO.none _
      | refine LeO.ite ?_ ?_
      | refine LeO.bind ?_ (fun _ => ?_)
    · intro y0 y1 y2 y3
      unfold portreeveref03_Read.l0
      repeat' first
      | (with_reducible exact ih0 _ _ _ _)
      | (with_reducible exact ih1 _ _ _ _)
      | (with_reducible exact LeO.refl _)
      | (with_reducible exact LeO.none _)
      | (with_reducible refine LeO.ite ?_ ?_)
      | (with_reducible refine LeO.bind ?_ (fun _ => ?_))
      | exact ih0 _ _ _ _
      | exact ih1 _ _ _ _
      | exact LeO.none _
      | refine LeO.ite ?_ ?_
      | refine LeO.bind ?_ (fun _ => ?_)
theorem portreeveref03_Read.mono : ∀ a0 a1 a2 k, LeO (portreeveref03_Read.f k a0 a1 a2) (portreeveref03_Read.f (k + 1) a0 a1 a2) := by
  intro a0 a1 a2 k
  obtain ⟨ih0, ih1⟩ := portreeveref03_Read.mono_l k
  unfold portreeveref03_Read.f
  repeat' first
      | (with_reducible exact ih0 _ _ _ _)
      | (with_reducible exact ih1 _ _ _ _)
      | (with_reducible exact LeO.refl _)
      | (with_reducible exact LeO.none _)
      | (with_reducible refine LeO.ite ?_ ?_)
      | (with_reducible refine LeO.bind ?_ (fun _ => ?_))
      | exact ih0 _ _ _ _
      | exact ih1 _ _ _ _
      | exact LeO.none _
      | refine LeO.ite ?_ ?_
      | refine LeO.bind ?_ (fun _ => ?_)
set_option maxHeartbeats 8000000 in
set_option maxRecDepth 100000 in
theorem portreeveref03_Read.calls (k : Nat) (P0_0_ : Nat → Prop) (A0_0 : Option Addr) (c0_0 : Nat) (l0_0 : List (List Int)) (P0_1_ : Nat → Prop) (A0_1 : Option Addr) (c0_1 : Nat) (l0_1 : List (S47)) (a1 : Int) (r1 : List Int) (r2 : Int) (w : World) (hs0_0 : Kd.V (Kd.slice 5 (Kd.int .u8)) 26 w w.heap.size (fun k_ => P0_0_ k_) (.slice A0_0 l0_0.length c0_0) l0_0) (hs0_1 : Kd.V k47 47 w w.heap.size (fun k_ => P0_1_ k_) (.slice A0_1 l0_1.length c0_1) l0_1) (h : portreeveref03_Read.f k l0_0 l0_1 a1 = some (r1, r2)) :
    Calls Try.prog 15 #[.agg #[.slice A0_0 l0_0.length c0_0, .slice A0_1 l0_1.length c0_1], .int .i64 a1] w fun e w' => ∃ v0_ : Value, e = .returned (.tuple #[v0_, .int .i64 r2]) ∧ Kd.V (Kd.int .u8) 5 w' w.heap.size (fun k_ => ((P0_0_ k_ ∨ P0_1_ k_) ∨ w.heap.size ≤ k_)) v0_ r1 ∧ Below w.heap.size w w' := by
  have hu25 := Try.underlying25
  have hu47 := Try.underlying47
  have HO0_0 := Aside0.mk (show Kd.V (Kd.slice 5 (Kd.int .u8)) 26 w w.heap.size (fun k_ => ((P0_0_ k_ ∨ P0_1_ k_) ∨ w.heap.size ≤ k_)) (.slice A0_0 l0_0.length c0_0) l0_0 from Kd.V_mono hs0_0 (fun k_ hk => .inl (.inl hk)))
  have HO0_1 := Aside0.mk (show Kd.V k47 47 w w.heap.size (fun k_ => ((P0_0_ k_ ∨ P0_1_ k_) ∨ w.heap.size ≤ k_)) (.slice A0_1 l0_1.length c0_1) l0_1 from Kd.V_mono hs0_1 (fun k_ hk => .inl (.inr hk)))
  have HB := Aside0.mk (Below.refl w.heap.size w)
  have H : (if a1 < 0 then (portreeveref03_Read.j0 k a1 true l0_0 l0_1) else (if a1 > 63 then (portreeveref03_Read.j0 k a1 true l0_0 l0_1) else (portreeveref03_Read.j0 k a1 (decide (a1 ≥ (l0_0.length : Int))) l0_0 l0_1))) = some (r1, r2) := h
  clear h
  have HC3 := Aside0.mk H
  clear H
  go_enter Try.func15, Try.ntmps15
  go_upto_region 1 with (first | ((with_reducible refine gate_dst (N := 2) rfl ?_); (try (refine gate_guard (by rfl) ?_; dsimp only)); refine box_event ?hg (N := 2) ?hd (cs := #[.slice A0_0 l0_0.length c0_0, .slice A0_1 l0_1.length c0_1]) (t := 25) ?hr ?_; (case hd => rfl); (case hg => rfl); (case hr => first | (go_simp; done) | (go_simp; rfl)); intro gb247 hg w4 hbox hb; have n0_ := Aside0.mk (Kd.V_below (Kd.V_elderB (by (with_reducible repeat (first | apply Kd.V_alloc | apply Kd.V_drewN | apply Kd.V_drew)); exact HO0_0.out) gb247 (Nat.le_of_eq hg.symm)) hb); have n1_ := Aside0.mk (Kd.V_below (Kd.V_elderB (by (with_reducible repeat (first | apply Kd.V_alloc | apply Kd.V_drewN | apply Kd.V_drew)); exact HO0_1.out) gb247 (Nat.le_of_eq hg.symm)) hb); have n2_ := Aside0.mk (below_step (by repeat (first | (with_reducible first | exact HB.out | apply pA | apply pN | apply pD) | exact HB.out)) hb); have n3_ := Aside0.mk (hbox); have n4_ := Aside0.mk ((by rw [hg]; exact (below_size (by repeat (first | (with_reducible first | exact HB.out | apply pA | apply pN | apply pD) | exact HB.out))) : w.heap.size ≤ gb247)); have n5_ := Aside0.mk ((by rw [hg]; exact (below_size (by repeat (first | (with_reducible first | exact HB.out | apply pA | apply pN | apply pD) | exact HB.out))) : w.heap.size ≤ gb247)); clear HO0_0; clear HO0_1; clear HB; have HO0_0 := n0_; have HO0_1 := n1_; have HB := n2_; have BK247 := n3_; have GW247 := n4_; have GE247 := n5_; clear n0_ n1_ n2_ n3_ n4_ n5_; clear hb hbox hg))
  (try simp only [Act.put, List.setIfInBounds_toArray, List.set_cons_zero, List.set_cons_succ])
  go_cut [19] (fun v19 wc => ∃ (kq : Nat) (x19_2 : Bool), v19 = .bool x19_2 ∧ Aside0 (portreeveref03_Read.j0 kq a1 x19_2 l0_0 l0_1 = some (r1, r2)) ∧ Aside0 (kq ≤ k) ∧ Aside0 (Kd.V (Kd.slice 5 (Kd.int .u8)) 26 wc w.heap.size (fun k_ => ((P0_0_ k_ ∨ P0_1_ k_) ∨ w.heap.size ≤ k_) ∧ k_ ≠ gb247) (.slice A0_0 l0_0.length c0_0) l0_0) ∧ Aside0 (Kd.V k47 47 wc w.heap.size (fun k_ => ((P0_0_ k_ ∨ P0_1_ k_) ∨ w.heap.size ≤ k_) ∧ k_ ≠ gb247) (.slice A0_1 l0_1.length c0_1) l0_1) ∧ Aside0 (wc.heap[gb247]? = some (.cells #[(.slice A0_0 l0_0.length c0_0), (.slice A0_1 l0_1.length c0_1)] 25 (0, 0))) ∧ Aside0 (Below w.heap.size w wc))
  case first =>
    have H := HC3.out
    clear HC3
    by_cases c5 : a1 < 0
    · rw [if_pos c5] at H
      have c5b0 : decide (a1 < 0) = true := decide_eq_true c5
      clear c5
      (first | rw [c5b0] | (simp only [i64_w, i32_w]; rw [c5b0]) | skip)
      have H' := Aside0.mk H
      clear H
      go_wp2
      go_meet
      case rel => exact ⟨_, (true), (by first | rfl | (simp; done) | (simp [*]; done)), H', ⟨by first | omega | exact Nat.le_refl _⟩, ⟨by (with_reducible repeat (first | apply Kd.V_alloc | apply Kd.V_drewN | apply Kd.V_drew)); exact HO0_0.out⟩, ⟨by (with_reducible repeat (first | apply Kd.V_alloc | apply Kd.V_drewN | apply Kd.V_drew)); exact HO0_1.out⟩, ⟨by (with_reducible repeat (first | refine qN ?_ _ | refine qD ?_ | refine qA ?_ _)); exact BK247.out⟩, ⟨by repeat (first | (with_reducible first | exact HB.out | apply pA | apply pN | apply pD | refine pS ?_ GE247.out) | exact HB.out)⟩⟩
    · rw [if_neg c5] at H
      have c5b0 : decide (a1 < 0) = false := decide_eq_false c5
      clear c5
      (first | rw [c5b0] | (simp only [i64_w, i32_w]; rw [c5b0]) | skip)
      by_cases c6 : a1 > 63
      · rw [if_pos c6] at H
        have c6b0 : decide (63 < a1) = true := decide_eq_true c6
        clear c6
        have H' := Aside0.mk H
        clear H
        go_wp2
        go_meet
        case rel => exact ⟨_, (true), (by first | rfl | (simp; done) | (simp [*]; done)), H', ⟨by first | omega | exact Nat.le_refl _⟩, ⟨by (with_reducible repeat (first | apply Kd.V_alloc | apply Kd.V_drewN | apply Kd.V_drew)); exact HO0_0.out⟩, ⟨by (with_reducible repeat (first | apply Kd.V_alloc | apply Kd.V_drewN | apply Kd.V_drew)); exact HO0_1.out⟩, ⟨by (with_reducible repeat (first | refine qN ?_ _ | refine qD ?_ | refine qA ?_ _)); exact BK247.out⟩, ⟨by repeat (first | (with_reducible first | exact HB.out | apply pA | apply pN | apply pD | refine pS ?_ GE247.out) | exact HB.out)⟩⟩
      · rw [if_neg c6] at H
        have c6b0 : decide (63 < a1) = false := decide_eq_false c6
        clear c6
        have H' := Aside0.mk H
        clear H
        have hcz7_0 : w4.cell? ⟨gb247, 0, none⟩ = some (.slice A0_0 l0_0.length c0_0) := (blk_cell BK247.out 0).trans rfl
        have hcz7_1 : w4.cell? ⟨gb247, 1, none⟩ = some (.slice A0_1 l0_1.length c0_1) := (blk_cell BK247.out 1).trans rfl
        have hfz7_0 := blk_frozen BK247.out 0
        have hfz7_1 := blk_frozen BK247.out 1
        go_wp2
        go_meet
        case rel => exact ⟨_, (decide (a1 ≥ (l0_0.length : Int))), (by first | rfl | (simp; done) | (simp [*]; done)), H', ⟨by first | omega | exact Nat.le_refl _⟩, ⟨by (with_reducible repeat (first | apply Kd.V_alloc | apply Kd.V_drewN | apply Kd.V_drew)); exact HO0_0.out⟩, ⟨by (with_reducible repeat (first | apply Kd.V_alloc | apply Kd.V_drewN | apply Kd.V_drew)); exact HO0_1.out⟩, ⟨by (with_reducible repeat (first | refine qN ?_ _ | refine qD ?_ | refine qA ?_ _)); exact BK247.out⟩, ⟨by repeat (first | (with_reducible first | exact HB.out | apply pA | apply pN | apply pD | refine pS ?_ GE247.out) | exact HB.out)⟩⟩
  case rest =>
    clear HC3
    try clear c1
    try clear p2
    try clear c5
    try clear c5b0
    try clear c6
    try clear c6b0
    try clear hcz7_0
    try clear hcz7_1
    try clear hfz7_0
    try clear hfz7_1
    obtain ⟨kq, x19_2, rfl, HA, HJ2, HO_248000, HO_248001, BK247, HB⟩ := hcut
    cases kq with
    | zero => exact absurd HA.out (by simp [portreeveref03_Read.j0])
    | succ kj2 =>
      have H := HA.out
      clear HA
      simp only [portreeveref03_Read.j0] at H
      by_cases c8 : x19_2 = true
      · subst c8
        have H1 : (some (([] : List Int), 1)) = some (r1, r2) := by rw [if_pos rfl] at H; exact H
        clear H
        have H := H1
        clear H1
        simp only [Option.some.injEq, Prod.mk.injEq] at H
        obtain ⟨rfl, rfl⟩ := H
        go_wp2
        go_ret2
        exact ⟨_, by first | rfl | (simp [errW_none, errW_some] <;> rfl) | (simp [*, errW_none, errW_some] <;> rfl), (Kd.V_nil _ _ _ _ _), by repeat (first | (with_reducible first | exact HB.out | apply pA | apply pN | apply pD | refine pS ?_ GE247.out) | exact HB.out)⟩
      · replace c8 := Bool.eq_false_iff.mpr c8
        subst c8
        have H1 : (portreeveref03_Read.l0 kj2 a1 (wrap64 ((l0_1.length : Int) - 1)) l0_0 l0_1) = some (r1, r2) := by rw [if_neg (show ¬ (false = true) by decide)] at H; exact H
        clear H
        have H := H1
        clear H1
        have H' := Aside0.mk H
        clear H
        have hcz9_0 : wc.cell? ⟨gb247, 0, none⟩ = some (.slice A0_0 l0_0.length c0_0) := (blk_cell BK247.out 0).trans rfl
        have hcz9_1 : wc.cell? ⟨gb247, 1, none⟩ = some (.slice A0_1 l0_1.length c0_1) := (blk_cell BK247.out 1).trans rfl
        have hfz9_0 := blk_frozen BK247.out 0
        have hfz9_1 := blk_frozen BK247.out 1
        go_wp2
        go_loopg [6] kj2 (fun kq v6 w' => ∃ (x6_2 : Int), v6 = .int .i64 x6_2 ∧ Aside0 (portreeveref03_Read.l0 kq a1 x6_2 l0_0 l0_1 = some (r1, r2)) ∧ Aside0 (kq ≤ kj2) ∧ Aside0 (Kd.V (Kd.slice 5 (Kd.int .u8)) 26 w' w.heap.size (fun k_ => ((P0_0_ k_ ∨ P0_1_ k_) ∨ w.heap.size ≤ k_) ∧ k_ ≠ gb247) (.slice A0_0 l0_0.length c0_0) l0_0) ∧ Aside0 (Kd.V k47 47 w' w.heap.size (fun k_ => ((P0_0_ k_ ∨ P0_1_ k_) ∨ w.heap.size ≤ k_) ∧ k_ ≠ gb247) (.slice A0_1 l0_1.length c0_1) l0_1) ∧ Aside0 (w'.heap[gb247]? = some (.cells #[(.slice A0_0 l0_0.length c0_0), (.slice A0_1 l0_1.length c0_1)] 25 (0, 0))) ∧ Aside0 (Below w.heap.size w w'))
        case atStart => exact ⟨(wrap64 ((l0_1.length : Int) - 1)), (by first | rfl | (simp; done) | (simp [*]; done)), H', ⟨Nat.le_refl _⟩, ⟨by (with_reducible repeat (first | apply Kd.V_alloc | apply Kd.V_drewN | apply Kd.V_drew)); exact HO_248000.out⟩, ⟨by (with_reducible repeat (first | apply Kd.V_alloc | apply Kd.V_drewN | apply Kd.V_drew)); exact HO_248001.out⟩, ⟨by (with_reducible repeat (first | refine qN ?_ _ | refine qD ?_ | refine qA ?_ _)); exact BK247.out⟩, ⟨by repeat (first | (with_reducible first | exact HB.out | apply pA | apply pN | apply pD | refine pS ?_ GE247.out) | exact HB.out)⟩⟩
        case round =>
          clear H'
          try clear c1
          try clear p2
          try clear c5
          try clear c5b0
          try clear c6
          try clear c6b0
          try clear p6
          try clear c8
          try clear hcz7_0
          try clear hcz7_1
          try clear hcz9_0
          try clear hcz9_1
          try clear hfz7_0
          try clear hfz7_1
          try clear hfz9_0
          try clear hfz9_1
          try clear p2
          obtain ⟨x6_2, rfl, HA, HK2, HO_248000, HO_248001, BK247, HB⟩ := hrel
          cases gk with
          | zero => exact absurd HA.out (by simp [portreeveref03_Read.l0])
          | succ k2 =>
            have H := HA.out
            clear HA
            simp only [portreeveref03_Read.l0] at H
            by_cases c10 : x6_2 ≥ 0
            · rw [if_pos c10] at H
              have c10b0 : decide (0 ≤ x6_2) = true := decide_eq_true c10
              clear c10
              by_cases c11 : 0 ≤ x6_2
              · rw [if_pos c11] at H
                have c11b0 : decide (0 ≤ x6_2) = true := decide_eq_true c11
                clear c11
                by_cases c12 : x6_2 < (l0_1.length : Int)
                · rw [if_pos c12] at H
                  have c12b0 : decide (x6_2 < (l0_1.length : Int)) = true := decide_eq_true c12
                  clear c12
                  by_cases c13 : ((rd_T47 l0_1 x6_2).f0) = a1
                  · rw [if_pos c13] at H
                    have c13b0 : (((rd_T47 l0_1 x6_2).f0) == a1) = true := beq_iff_eq.mpr c13
                    have c13b1 : (((rd_T47 l0_1 x6_2).f0) != a1) = false := bne_eq_false_iff_eq.mpr c13
                    clear c13
                    simp only [Option.some.injEq, Prod.mk.injEq] at H
                    obtain ⟨rfl, rfl⟩ := H
                    have hcz14_0 : wr.cell? ⟨gb247, 0, none⟩ = some (.slice A0_0 l0_0.length c0_0) := (blk_cell BK247.out 0).trans rfl
                    have hcz14_1 : wr.cell? ⟨gb247, 1, none⟩ = some (.slice A0_1 l0_1.length c0_1) := (blk_cell BK247.out 1).trans rfl
                    have hfz14_0 := blk_frozen BK247.out 0
                    have hfz14_1 := blk_frozen BK247.out 1
                    have p248 : 0 ≤ (x6_2 : Int) := of_decide_eq_true (by first | (with_reducible assumption) | assumption)
                    have q248 : x6_2 < (l0_1.length : Int) := of_decide_eq_true (by first | (with_reducible assumption) | assumption)
                    obtain ⟨ad248, A248_1, c248_1, e248, hx248_0, hx248_1, hl248_1, hi248_1⟩ := at_T47 (Kd.V_reads' HO_248001.out).2.2 x6_2 p248 q248
                    cases e248
                    obtain ⟨ce248, hce248, hMe248, hcc248⟩ := Kd.V_get HO_248001.out z47 x6_2 p248 (by first | exact q248 | exact of_decide_eq_true (by first | (with_reducible assumption) | assumption) | (have e_ := (Kd.V_reads' HO_248001.out).1; omega))
                    obtain ⟨ua248_1, uc248_1, rfl, ul248_1, ge248_1⟩ := k47_openF hMe248
                    have hv248_1 := hcc248 1 _ rfl
                    rw [add_field _ _ 1 (by omega)] at hv248_1
                    replace hv248_1 := Option.some.inj (hv248_1.symm.trans hx248_1)
                    injection hv248_1 with hva_ hvn_ hvc_
                    rw [hva_] at ge248_1
                    rw [hvc_] at ul248_1
                    have HL248_1 := Aside0.mk (show Kd.V (Kd.int .u8) 5 _ w.heap.size _ _ ((rd_T47 l0_1 x6_2).f1) from Kd.V_mk ul248_1 ge248_1)
                    clear hva_ hvn_ hvc_ ge248_1 ul248_1
                    clear hcc248 hce248
                    have HR248_1 := Aside0.mk hi248_1
                    have HC248_1 := Aside0.mk hl248_1
                    clear hi248_1 hl248_1
                    replace p248 := eq_true p248
                    replace q248 := eq_true q248
                    have p249 : 0 ≤ (x6_2 : Int) := of_decide_eq_true (by first | (with_reducible assumption) | assumption)
                    have q249 : x6_2 < (l0_1.length : Int) := of_decide_eq_true (by first | (with_reducible assumption) | assumption)
                    obtain ⟨ad249, A249_1, c249_1, e249, hx249_0, hx249_1, hl249_1, hi249_1⟩ := at_T47 (Kd.V_reads' HO_248001.out).2.2 x6_2 p249 q249
                    obtain rfl : ad248 = ad249 := (by injection e249)
                    obtain ⟨ce249, hce249, hMe249, hcc249⟩ := Kd.V_get HO_248001.out z47 x6_2 p249 (by first | exact q249 | exact of_decide_eq_true (by first | (with_reducible assumption) | assumption) | (have e_ := (Kd.V_reads' HO_248001.out).1; omega))
                    obtain ⟨ua249_1, uc249_1, rfl, ul249_1, ge249_1⟩ := k47_openF hMe249
                    have hv249_1 := hcc249 1 _ rfl
                    rw [add_field _ _ 1 (by omega)] at hv249_1
                    replace hv249_1 := Option.some.inj (hv249_1.symm.trans hx249_1)
                    injection hv249_1 with hva_ hvn_ hvc_
                    rw [hva_] at ge249_1
                    rw [hvc_] at ul249_1
                    have HL249_1 := Aside0.mk (show Kd.V (Kd.int .u8) 5 _ w.heap.size _ _ ((rd_T47 l0_1 x6_2).f1) from Kd.V_mk ul249_1 ge249_1)
                    clear hva_ hvn_ hvc_ ge249_1 ul249_1
                    clear hcc249 hce249
                    have HR249_1 := Aside0.mk hi249_1
                    have HC249_1 := Aside0.mk hl249_1
                    clear hi249_1 hl249_1
                    replace p249 := eq_true p249
                    replace q249 := eq_true q249
                    have ea_ := Option.some.inj (hx248_1.symm.trans hx249_1)
                    injection ea_ with ea_ en_ ec_
                    subst ea_
                    subst ec_
                    clear en_
                    go_wp2
                    go_ret2
                    exact ⟨_, by first | rfl | (simp [errW_none, errW_some] <;> rfl) | (simp [*, errW_none, errW_some] <;> rfl), by (with_reducible repeat (first | apply Kd.V_alloc | apply Kd.V_drewN | apply Kd.V_drew)); exact Kd.V_mono HL249_1.out (fun _ hk => hk.1), by repeat (first | (with_reducible first | exact HB.out | apply pA | apply pN | apply pD | refine pS ?_ GE247.out) | exact HB.out)⟩
                  · rw [if_neg c13] at H
                    have c13b0 : (((rd_T47 l0_1 x6_2).f0) == a1) = false := beq_eq_false_iff_ne.mpr c13
                    have c13b1 : (((rd_T47 l0_1 x6_2).f0) != a1) = true := bne_iff_ne.mpr c13
                    have H' := Aside0.mk H
                    clear H
                    have hcz15_0 : wr.cell? ⟨gb247, 0, none⟩ = some (.slice A0_0 l0_0.length c0_0) := (blk_cell BK247.out 0).trans rfl
                    have hcz15_1 : wr.cell? ⟨gb247, 1, none⟩ = some (.slice A0_1 l0_1.length c0_1) := (blk_cell BK247.out 1).trans rfl
                    have hfz15_0 := blk_frozen BK247.out 0
                    have hfz15_1 := blk_frozen BK247.out 1
                    have p248 : 0 ≤ (x6_2 : Int) := of_decide_eq_true (by first | (with_reducible assumption) | assumption)
                    have q248 : x6_2 < (l0_1.length : Int) := of_decide_eq_true (by first | (with_reducible assumption) | assumption)
                    obtain ⟨ad248, A248_1, c248_1, e248, hx248_0, hx248_1, hl248_1, hi248_1⟩ := at_T47 (Kd.V_reads' HO_248001.out).2.2 x6_2 p248 q248
                    cases e248
                    obtain ⟨ce248, hce248, hMe248, hcc248⟩ := Kd.V_get HO_248001.out z47 x6_2 p248 (by first | exact q248 | exact of_decide_eq_true (by first | (with_reducible assumption) | assumption) | (have e_ := (Kd.V_reads' HO_248001.out).1; omega))
                    obtain ⟨ua248_1, uc248_1, rfl, ul248_1, ge248_1⟩ := k47_openF hMe248
                    have hv248_1 := hcc248 1 _ rfl
                    rw [add_field _ _ 1 (by omega)] at hv248_1
                    replace hv248_1 := Option.some.inj (hv248_1.symm.trans hx248_1)
                    injection hv248_1 with hva_ hvn_ hvc_
                    rw [hva_] at ge248_1
                    rw [hvc_] at ul248_1
                    have HL248_1 := Aside0.mk (show Kd.V (Kd.int .u8) 5 _ w.heap.size _ _ ((rd_T47 l0_1 x6_2).f1) from Kd.V_mk ul248_1 ge248_1)
                    clear hva_ hvn_ hvc_ ge248_1 ul248_1
                    clear hcc248 hce248
                    have HR248_1 := Aside0.mk hi248_1
                    have HC248_1 := Aside0.mk hl248_1
                    clear hi248_1 hl248_1
                    replace p248 := eq_true p248
                    replace q248 := eq_true q248
                    go_wp2
                    go_roundg k2
                    case measure => have := HJ2.out; have := HK2.out; omega
                    case rel => exact ⟨(wrap64 (x6_2 - 1)), (by first | rfl | (simp; done) | (simp [*]; done)), H', ⟨by have := HJ2.out; have := HK2.out; omega⟩, ⟨by (with_reducible repeat (first | apply Kd.V_alloc | apply Kd.V_drewN | apply Kd.V_drew)); exact HO_248000.out⟩, ⟨by (with_reducible repeat (first | apply Kd.V_alloc | apply Kd.V_drewN | apply Kd.V_drew)); exact HO_248001.out⟩, ⟨by (with_reducible repeat (first | refine qN ?_ _ | refine qD ?_ | refine qA ?_ _)); exact BK247.out⟩, ⟨by repeat (first | (with_reducible first | exact HB.out | apply pA | apply pN | apply pD | refine pS ?_ GE247.out) | exact HB.out)⟩⟩
                · rw [if_neg c12] at H
                  exact absurd H (by simp)
              · rw [if_neg c11] at H
                exact absurd H (by simp)
            · rw [if_neg c10] at H
              have c10b0 : decide (0 ≤ x6_2) = false := decide_eq_false c10
              clear c10
              by_cases c16 : 0 ≤ a1
              · rw [if_pos c16] at H
                have c16b0 : decide (0 ≤ a1) = true := decide_eq_true c16
                clear c16
                by_cases c17 : a1 < (l0_0.length : Int)
                · rw [if_pos c17] at H
                  have c17b0 : decide (a1 < (l0_0.length : Int)) = true := decide_eq_true c17
                  clear c17
                  simp only [Option.some.injEq, Prod.mk.injEq] at H
                  obtain ⟨rfl, rfl⟩ := H
                  have hcz18_0 : wr.cell? ⟨gb247, 0, none⟩ = some (.slice A0_0 l0_0.length c0_0) := (blk_cell BK247.out 0).trans rfl
                  have hcz18_1 : wr.cell? ⟨gb247, 1, none⟩ = some (.slice A0_1 l0_1.length c0_1) := (blk_cell BK247.out 1).trans rfl
                  have hfz18_0 := blk_frozen BK247.out 0
                  have hfz18_1 := blk_frozen BK247.out 1
                  have p250 : 0 ≤ (a1 : Int) := of_decide_eq_true (by first | (with_reducible assumption) | assumption)
                  have q250 : a1 < (l0_0.length : Int) := of_decide_eq_true (by first | (with_reducible assumption) | assumption)
                  obtain ⟨ad250, A250_0, c250_0, e250, hx250_0, hl250_0, hi250_0⟩ := at_L2 (Kd.V_reads' HO_248000.out).2.2 a1 p250 q250
                  cases e250
                  obtain ⟨ce250, hce250, hMe250, hcc250⟩ := Kd.V_get HO_248000.out [] a1 p250 (by first | exact q250 | exact of_decide_eq_true (by first | (with_reducible assumption) | assumption) | (have e_ := (Kd.V_reads' HO_248000.out).1; omega))
                  obtain ⟨ua250_0, uc250_0, rfl, ul250_0, ge250_0⟩ := Kd.FK_slice_open hMe250
                  have hv250_0 := hcc250 0 _ rfl
                  rw [Nat.add_zero, show ((Kd.slice 5 (Kd.int .u8))).sz = 1 from rfl, Nat.mul_one] at hv250_0
                  replace hv250_0 := Option.some.inj (hv250_0.symm.trans hx250_0)
                  injection hv250_0 with hva_ hvn_ hvc_
                  rw [hva_] at ge250_0
                  rw [hvc_] at ul250_0
                  have HL250_0 := Aside0.mk (show Kd.V (Kd.int .u8) 5 _ w.heap.size _ _ (rd_L2 l0_0 a1) from Kd.V_mk ul250_0 ge250_0)
                  clear hva_ hvn_ hvc_ ge250_0 ul250_0
                  clear hcc250 hce250
                  have HR250_0 := Aside0.mk hi250_0
                  have HC250_0 := Aside0.mk hl250_0
                  clear hi250_0 hl250_0
                  replace p250 := eq_true p250
                  replace q250 := eq_true q250
                  go_wp2
                  go_ret2
                  exact ⟨_, by first | rfl | (simp [errW_none, errW_some] <;> rfl) | (simp [*, errW_none, errW_some] <;> rfl), by (with_reducible repeat (first | apply Kd.V_alloc | apply Kd.V_drewN | apply Kd.V_drew)); exact Kd.V_mono HL250_0.out (fun _ hk => hk.1), by repeat (first | (with_reducible first | exact HB.out | apply pA | apply pN | apply pD | refine pS ?_ GE247.out) | exact HB.out)⟩
                · rw [if_neg c17] at H
                  exact absurd H (by simp)
              · rw [if_neg c16] at H
                exact absurd H (by simp)

/-! ### portreeveref01_Row: function 17 -/
def portreeveref01_Row.l0 : Nat → List Int → List Int → Int → Option (Bool)
  | 0, _, _, _ => none
  | k + 1, x0, x1, x5 => if x5 < (x0.length : Int) then (if 0 ≤ x5 then (if x5 < (x1.length : Int) then (if (rd x0 x5) = (rd x1 x5) then (portreeveref01_Row.l0 k x0 x1 (wrap64 (x5 + 1))) else (some false)) else (none)) else (none)) else (some true)
def portreeveref01_Row.f (k : Nat) (l0 : List Int) (l1 : List Int) : Option (Bool) := if (l0.length : Int) = (l1.length : Int) then (portreeveref01_Row.l0 k l0 l1 0) else (some false)
theorem portreeveref01_Row.mono_l : ∀ k, (∀ y0 y1 y2, LeO (portreeveref01_Row.l0 k y0 y1 y2) (portreeveref01_Row.l0 (k + 1) y0 y1 y2))
  | 0 => fun _ _ _ r h => by simp [portreeveref01_Row.l0] at h
  | k + 1 => by
    have ih0 := portreeveref01_Row.mono_l k
    · intro y0 y1 y2
      unfold portreeveref01_Row.l0
      repeat' first
      | (with_reducible exact ih0 _ _ _)
      | (with_reducible exact LeO.refl _)
      | (with_reducible exact LeO.none _)
      | (with_reducible refine LeO.ite ?_ ?_)
      | (with_reducible refine LeO.bind ?_ (fun _ => ?_))
      | exact ih0 _ _ _
      | exact LeO.none _
      | refine LeO.ite ?_ ?_
      | refine LeO.bind ?_ (fun _ => ?_)
theorem portreeveref01_Row.mono : ∀ a0 a1 k, LeO (portreeveref01_Row.f k a0 a1) (portreeveref01_Row.f (k + 1) a0 a1) := by
  intro a0 a1 k
  have ih0 := portreeveref01_Row.mono_l k
  unfold portreeveref01_Row.f
  repeat' first
      | (with_reducible exact ih0 _ _ _)
      | (with_reducible exact LeO.refl _)
      | (with_reducible exact LeO.none _)
      | (with_reducible refine LeO.ite ?_ ?_)
      | (with_reducible refine LeO.bind ?_ (fun _ => ?_))
      | exact ih0 _ _ _
      | exact LeO.none _
      | refine LeO.ite ?_ ?_
      | refine LeO.bind ?_ (fun _ => ?_)
set_option maxHeartbeats 8000000 in
set_option maxRecDepth 100000 in
theorem portreeveref01_Row.calls (k : Nat) (A0 : Option Addr) (c0 : Nat) (l0 : List Int) (A1 : Option Addr) (c1 : Nat) (l1 : List Int) (r : Bool) (w : World) (hr0 : Kd.C (Kd.int .u8) w A0 l0.length l0) (hc0 : l0.length ≤ c0) (hr1 : Kd.C (Kd.int .u8) w A1 l1.length l1) (hc1 : l1.length ≤ c1) (h : portreeveref01_Row.f k l0 l1 = some r) :
    Calls Try.prog 17 #[.slice A0 l0.length c0, .slice A1 l1.length c1] w fun e w' => e = .returned (.bool r) ∧ Drawn0 w w' := by
  have HR0 := Aside0.mk hr0
  have HC0 := Aside0.mk hc0
  clear hr0 hc0
  have HR1 := Aside0.mk hr1
  have HC1 := Aside0.mk hc1
  clear hr1 hc1
  have H : (if (l0.length : Int) = (l1.length : Int) then (portreeveref01_Row.l0 k l0 l1 0) else (some false)) = some r := h
  clear h
  by_cases c3 : (l0.length : Int) = (l1.length : Int)
  · rw [if_pos c3] at H
    have c3b0 : ((l0.length : Int) == (l1.length : Int)) = true := beq_iff_eq.mpr c3
    have c3b1 : ((l0.length : Int) != (l1.length : Int)) = false := bne_eq_false_iff_eq.mpr c3
    have c3b2 : (l0.length == l1.length) = true := by first | simpa using c3 | (simp at c3 ⊢; omega)
    clear c3
    have H' := Aside0.mk H
    clear H
    go_enter Try.func17, Try.ntmps17
    go_wp2
    repeat (go_quiet (fail); try go_wp2)
    go_loopg [5] k (fun kq v5 w' => ∃ (x5_1 : Int), v5 = .int .i64 x5_1 ∧ Aside0 (portreeveref01_Row.l0 kq l0 l1 x5_1 = some r) ∧ Aside0 (kq ≤ k) ∧ Drawn0 w w')
    case atStart => exact ⟨(0), (by first | rfl | (simp; done) | (simp [*]; done)), H', ⟨Nat.le_refl _⟩, by repeat (first | exact Drawn0.refl _ | apply Drawn0.step)⟩
    case round =>
      clear H'
      try clear c1
      try clear p2
      try clear c3
      try clear c3b0
      try clear c3b1
      try clear c3b2
      obtain ⟨x5_1, rfl, HA, HK1, ⟨m1, rfl⟩⟩ := hrel
      cases gk with
      | zero => exact absurd HA.out (by simp [portreeveref01_Row.l0])
      | succ k1 =>
        have H := HA.out
        clear HA
        simp only [portreeveref01_Row.l0] at H
        by_cases c4 : x5_1 < (l0.length : Int)
        · rw [if_pos c4] at H
          have c4b0 : decide (x5_1 < (l0.length : Int)) = true := decide_eq_true c4
          clear c4
          by_cases c5 : 0 ≤ x5_1
          · rw [if_pos c5] at H
            have c5b0 : decide (0 ≤ x5_1) = true := decide_eq_true c5
            clear c5
            by_cases c6 : x5_1 < (l1.length : Int)
            · rw [if_pos c6] at H
              have c6b0 : decide (x5_1 < (l1.length : Int)) = true := decide_eq_true c6
              clear c6
              by_cases c7 : (rd l0 x5_1) = (rd l1 x5_1)
              · rw [if_pos c7] at H
                have c7b0 : ((rd l0 x5_1) == (rd l1 x5_1)) = true := beq_iff_eq.mpr c7
                have c7b1 : ((rd l0 x5_1) != (rd l1 x5_1)) = false := bne_eq_false_iff_eq.mpr c7
                clear c7
                have H' := Aside0.mk H
                clear H
                have p251 : 0 ≤ (x5_1 : Int) := of_decide_eq_true (by first | (with_reducible assumption) | assumption)
                have q251 : x5_1 < (l0.length : Int) := of_decide_eq_true (by first | (with_reducible assumption) | assumption)
                obtain ⟨ad251, e251, hx251_0⟩ := Kd.at_int HR0.out x5_1 p251 q251
                cases e251
                replace p251 := eq_true p251
                replace q251 := eq_true q251
                have p252 : 0 ≤ (x5_1 : Int) := of_decide_eq_true (by first | (with_reducible assumption) | assumption)
                have q252 : x5_1 < (l1.length : Int) := of_decide_eq_true (by first | (with_reducible assumption) | assumption)
                obtain ⟨ad252, e252, hx252_0⟩ := Kd.at_int HR1.out x5_1 p252 q252
                cases e252
                replace p252 := eq_true p252
                replace q252 := eq_true q252
                go_wp2
                repeat (go_quiet (fail); try go_wp2)
                go_roundg k1
                case measure => have := HK1.out; omega
                case rel => exact ⟨(wrap64 (x5_1 + 1)), (by first | rfl | (simp; done) | (simp [*]; done)), H', ⟨by have := HK1.out; omega⟩, by repeat (first | exact Drawn0.refl _ | apply Drawn0.step)⟩
              · rw [if_neg c7] at H
                have c7b0 : ((rd l0 x5_1) == (rd l1 x5_1)) = false := beq_eq_false_iff_ne.mpr c7
                have c7b1 : ((rd l0 x5_1) != (rd l1 x5_1)) = true := bne_iff_ne.mpr c7
                obtain rfl := Option.some.inj H
                have p251 : 0 ≤ (x5_1 : Int) := of_decide_eq_true (by first | (with_reducible assumption) | assumption)
                have q251 : x5_1 < (l0.length : Int) := of_decide_eq_true (by first | (with_reducible assumption) | assumption)
                obtain ⟨ad251, e251, hx251_0⟩ := Kd.at_int HR0.out x5_1 p251 q251
                cases e251
                replace p251 := eq_true p251
                replace q251 := eq_true q251
                have p252 : 0 ≤ (x5_1 : Int) := of_decide_eq_true (by first | (with_reducible assumption) | assumption)
                have q252 : x5_1 < (l1.length : Int) := of_decide_eq_true (by first | (with_reducible assumption) | assumption)
                obtain ⟨ad252, e252, hx252_0⟩ := Kd.at_int HR1.out x5_1 p252 q252
                cases e252
                replace p252 := eq_true p252
                replace q252 := eq_true q252
                go_wp2
                repeat (go_quiet (fail); try go_wp2)
                go_ret
                exact ⟨by first | rfl | (simp; done) | (simp [*]; done), by repeat (first | exact Drawn0.refl _ | apply Drawn0.step)⟩
            · rw [if_neg c6] at H
              exact absurd H (by simp)
          · rw [if_neg c5] at H
            exact absurd H (by simp)
        · rw [if_neg c4] at H
          have c4b0 : decide (x5_1 < (l0.length : Int)) = false := decide_eq_false c4
          clear c4
          obtain rfl := Option.some.inj H
          go_wp2
          repeat (go_quiet (fail); try go_wp2)
          go_ret
          exact ⟨by first | rfl | (simp; done) | (simp [*]; done), by repeat (first | exact Drawn0.refl _ | apply Drawn0.step)⟩
  · rw [if_neg c3] at H
    have c3b0 : ((l0.length : Int) == (l1.length : Int)) = false := beq_eq_false_iff_ne.mpr c3
    have c3b1 : ((l0.length : Int) != (l1.length : Int)) = true := bne_iff_ne.mpr c3
    have c3b2 : (l0.length == l1.length) = false := by first | simpa using c3 | (simp at c3 ⊢; omega)
    obtain rfl := Option.some.inj H
    go_enter Try.func17, Try.ntmps17
    go_wp2
    repeat (go_quiet (fail); try go_wp2)
    go_ret
    exact ⟨by first | rfl | (simp; done) | (simp [*]; done), by repeat (first | exact Drawn0.refl _ | apply Drawn0.step)⟩

end Go.Proofs.Ytnhfhepakimncaa.Q

-- written by this session's own program (wip/tools/myprint.py), over the kit's print
import Derived.Test.YtocjadhpaecpaaaQx0
namespace Go.Proofs.Ytocjadhpaecpaaa.Q
open Go.RowKit Go.Proofs.YtocjadhpaecpaaaW.PrintWords Go.Proofs.YtocjadhpaecpaaaW.PrintLast Go.Proofs.YtocjadhpaecpaaaW.PrintMore
open Go.Proofs.YtocjadhpaecpaaaV
attribute [local go_sem] max2_int min2_int max_two min_two max_three min_three max_four min_four   -- for this text's walks alone
set_option linter.unusedVariables false
set_option linter.unusedSimpArgs false

/-! ### portreeveref04_last: function 28 -/
def portreeveref04_last.l0 : Nat → Int → Int → Int → List (S76) → List (S72) → List (S64) → Option (Int)
  | 0, _, _, _, _, _, _ => none
  | k + 1, x1, x7, x165000, x165001, x165002, x165003 => if x7 ≥ 0 then (if 0 ≤ x7 then (if x7 < (x165002.length : Int) then (if ((rd_T72 x165002 x7).f1) = x1 then (some x7) else (portreeveref04_last.l0 k x1 (wrap64 (x7 - 1)) x165000 x165001 x165002 x165003)) else (none)) else (none)) else (some (-1))
def portreeveref04_last.f (k : Nat) (a0_0 : Int) (l0_1 : List (S76)) (l0_2 : List (S72)) (l0_3 : List (S64)) (a1 : Int) (a2 : Int) : Option (Int) := portreeveref04_last.l0 k a1 (wrap64 (a2 - 1)) a0_0 l0_1 l0_2 l0_3
theorem portreeveref04_last.mono_l : ∀ k, (∀ y0 y1 y2 y3 y4 y5, LeO (portreeveref04_last.l0 k y0 y1 y2 y3 y4 y5) (portreeveref04_last.l0 (k + 1) y0 y1 y2 y3 y4 y5))
  | 0 => fun _ _ _ _ _ _ r h => by simp [portreeveref04_last.l0] at h
  | k + 1 => by
    have ih0 := portreeveref04_last.mono_l k
    · intro y0 y1 y2 y3 y4 y5
      unfold portreeveref04_last.l0
      repeat' first
      | (with_reducible exact ih0 _ _ _ _ _ _)
      | (with_reducible exact LeO.refl _)
      | (with_reducible exact LeO.none _)
      | (with_reducible refine LeO.ite ?_ ?_)
      | (with_reducible refine LeO.bind ?_ (fun _ => ?_))
      | exact ih0 _ _ _ _ _ _
      | exact LeO.none _
      | refine LeO.ite ?_ ?_
      | refine LeO.bind ?_ (fun _ => ?_)
theorem portreeveref04_last.mono : ∀ a0 a1 a2 a3 a4 a5 k, LeO (portreeveref04_last.f k a0 a1 a2 a3 a4 a5) (portreeveref04_last.f (k + 1) a0 a1 a2 a3 a4 a5) := by
  intro a0 a1 a2 a3 a4 a5 k
  have ih0 := portreeveref04_last.mono_l k
  unfold portreeveref04_last.f
  repeat' first
      | (with_reducible exact ih0 _ _ _ _ _ _)
      | (with_reducible exact LeO.refl _)
      | (with_reducible exact LeO.none _)
      | (with_reducible refine LeO.ite ?_ ?_)
      | (with_reducible refine LeO.bind ?_ (fun _ => ?_))
      | exact ih0 _ _ _ _ _ _
      | exact LeO.none _
      | refine LeO.ite ?_ ?_
      | refine LeO.bind ?_ (fun _ => ?_)
set_option maxHeartbeats 8000000 in
set_option maxRecDepth 100000 in
theorem portreeveref04_last.calls (k : Nat) (a0_0 : Int) (A0_1 : Option Addr) (c0_1 : Nat) (l0_1 : List (S76)) (A0_2 : Option Addr) (c0_2 : Nat) (l0_2 : List (S72)) (A0_3 : Option Addr) (c0_3 : Nat) (l0_3 : List (S64)) (a1 : Int) (a2 : Int) (r : Int) (w : World) (hr0_1 : Kd.C k76 w A0_1 l0_1.length l0_1) (hc0_1 : l0_1.length ≤ c0_1) (hr0_2 : Kd.C k72 w A0_2 l0_2.length l0_2) (hc0_2 : l0_2.length ≤ c0_2) (hr0_3 : Kd.C k64 w A0_3 l0_3.length l0_3) (hc0_3 : l0_3.length ≤ c0_3) (h : portreeveref04_last.f k a0_0 l0_1 l0_2 l0_3 a1 a2 = some r) :
    Calls Try.prog 28 #[.agg #[.int .i64 a0_0, .slice A0_1 l0_1.length c0_1, .slice A0_2 l0_2.length c0_2, .slice A0_3 l0_3.length c0_3], .int .i64 a1, .int .i64 a2] w fun e w' => e = .returned (.int .i64 r) ∧ Below w.heap.size w w' := by
  have hu26 := Try.underlying26
  have hu72 := Try.underlying72
  have HR0_1 := Aside0.mk hr0_1
  have HC0_1 := Aside0.mk hc0_1
  clear hr0_1 hc0_1
  have HR0_2 := Aside0.mk hr0_2
  have HC0_2 := Aside0.mk hc0_2
  clear hr0_2 hc0_2
  have HR0_3 := Aside0.mk hr0_3
  have HC0_3 := Aside0.mk hc0_3
  clear hr0_3 hc0_3
  have HB := Aside0.mk (Below.refl w.heap.size w)
  have H : (portreeveref04_last.l0 k a1 (wrap64 (a2 - 1)) a0_0 l0_1 l0_2 l0_3) = some r := h
  clear h
  have H' := Aside0.mk H
  clear H
  go_enter Try.func28, Try.ntmps28
  go_wp2_with (first | ((with_reducible refine gate_dst (N := 3) rfl ?_); refine box_event ?hg (N := 3) ?hd (cs := #[.int .i64 a0_0, .slice A0_1 l0_1.length c0_1, .slice A0_2 l0_2.length c0_2, .slice A0_3 l0_3.length c0_3]) (t := 26) ?hr ?_; (case hd => rfl); (case hg => rfl); (case hr => first | (go_simp; done) | (go_simp; rfl)); intro gb164 hg w4 hbox hb; have n0_ := Aside0.mk (below_step (by repeat (first | (with_reducible first | exact HB.out | apply pA | apply pN | apply pD) | exact HB.out)) hb); have n1_ := Aside0.mk (hbox); have n2_ := Aside0.mk ((by rw [hg]; exact (below_size (by repeat (first | (with_reducible first | exact HB.out | apply pA | apply pN | apply pD) | exact HB.out))) : w.heap.size ≤ gb164)); have n3_ := Aside0.mk ((by rw [hg]; exact (below_size (by repeat (first | (with_reducible first | exact HB.out | apply pA | apply pN | apply pD) | exact HB.out))) : w.heap.size ≤ gb164)); clear HB; have HB := n0_; have BK164 := n1_; have GW164 := n2_; have GE164 := n3_; clear n0_ n1_ n2_ n3_; clear hb hbox hg))
  go_loopg [7] k (fun kq v7 w' => ∃ (x7_1 : Int), v7 = .int .i64 x7_1 ∧ Aside0 (portreeveref04_last.l0 kq a1 x7_1 a0_0 l0_1 l0_2 l0_3 = some r) ∧ Aside0 (kq ≤ k) ∧ Aside0 (w'.heap[gb164]? = some (.cells #[.int .i64 a0_0, (.slice A0_1 l0_1.length c0_1), (.slice A0_2 l0_2.length c0_2), (.slice A0_3 l0_3.length c0_3)] 26 (0, 0))) ∧ Aside0 (Below w.heap.size w w'))
  case atStart => exact ⟨(wrap64 (a2 - 1)), (by first | rfl | (simp; done) | (simp [*]; done)), H', ⟨Nat.le_refl _⟩, ⟨by (with_reducible repeat (first | refine qN ?_ _ | refine qD ?_ | refine qA ?_ _)); exact BK164.out⟩, ⟨by repeat (first | (with_reducible first | exact HB.out | apply pA | apply pN | apply pD | refine pS ?_ GE164.out) | exact HB.out)⟩⟩
  case round =>
    clear H'
    try clear c2
    try clear p2
    obtain ⟨x7_1, rfl, HA, HK1, BK164, HB⟩ := hrel
    cases gk with
    | zero => exact absurd HA.out (by simp [portreeveref04_last.l0])
    | succ k1 =>
      have H := HA.out
      clear HA
      simp only [portreeveref04_last.l0] at H
      by_cases c5 : x7_1 ≥ 0
      · rw [if_pos c5] at H
        have c5b0 : decide (0 ≤ x7_1) = true := decide_eq_true c5
        clear c5
        by_cases c6 : 0 ≤ x7_1
        · rw [if_pos c6] at H
          have c6b0 : decide (0 ≤ x7_1) = true := decide_eq_true c6
          clear c6
          by_cases c7 : x7_1 < (l0_2.length : Int)
          · rw [if_pos c7] at H
            have c7b0 : decide (x7_1 < (l0_2.length : Int)) = true := decide_eq_true c7
            clear c7
            by_cases c8 : ((rd_T72 l0_2 x7_1).f1) = a1
            · rw [if_pos c8] at H
              have c8b0 : (((rd_T72 l0_2 x7_1).f1) == a1) = true := beq_iff_eq.mpr c8
              have c8b1 : (((rd_T72 l0_2 x7_1).f1) != a1) = false := bne_eq_false_iff_eq.mpr c8
              clear c8
              obtain rfl := Option.some.inj H
              have hcz9_0 : wr.cell? ⟨gb164, 0, none⟩ = some (.int .i64 a0_0) := (blk_cell BK164.out 0).trans rfl
              have hcz9_1 : wr.cell? ⟨gb164, 1, none⟩ = some (.slice A0_1 l0_1.length c0_1) := (blk_cell BK164.out 1).trans rfl
              have hcz9_2 : wr.cell? ⟨gb164, 2, none⟩ = some (.slice A0_2 l0_2.length c0_2) := (blk_cell BK164.out 2).trans rfl
              have hcz9_3 : wr.cell? ⟨gb164, 3, none⟩ = some (.slice A0_3 l0_3.length c0_3) := (blk_cell BK164.out 3).trans rfl
              have hfz9_0 := blk_frozen BK164.out 0
              have hfz9_1 := blk_frozen BK164.out 1
              have hfz9_2 := blk_frozen BK164.out 2
              have hfz9_3 := blk_frozen BK164.out 3
              have p165 : 0 ≤ (x7_1 : Int) := of_decide_eq_true (by first | (with_reducible assumption) | assumption)
              have q165 : x7_1 < (l0_2.length : Int) := of_decide_eq_true (by first | (with_reducible assumption) | assumption)
              obtain ⟨ad165, e165, hx165_0, hx165_1, hx165_2, hx165_3, hx165_4⟩ := at_T72 HR0_2.out x7_1 p165 q165
              cases e165
              replace hx165_0 := (HB.out.cell (World.block_lt_of_cell? w _ hx165_0)).trans hx165_0
              replace hx165_1 := (HB.out.cell (World.block_lt_of_cell? w _ hx165_1)).trans hx165_1
              replace hx165_2 := (HB.out.cell (World.block_lt_of_cell? w _ hx165_2)).trans hx165_2
              replace hx165_3 := (HB.out.cell (World.block_lt_of_cell? w _ hx165_3)).trans hx165_3
              replace hx165_4 := (HB.out.cell (World.block_lt_of_cell? w _ hx165_4)).trans hx165_4
              replace p165 := eq_true p165
              replace q165 := eq_true q165
              go_wp2
              go_ret
              exact ⟨by first | rfl | (simp [errW_none, errW_some] <;> rfl) | (simp [*, errW_none, errW_some] <;> rfl), by repeat (first | (with_reducible first | exact HB.out | apply pA | apply pN | apply pD | refine pS ?_ GE164.out) | exact HB.out)⟩
            · rw [if_neg c8] at H
              have c8b0 : (((rd_T72 l0_2 x7_1).f1) == a1) = false := beq_eq_false_iff_ne.mpr c8
              have c8b1 : (((rd_T72 l0_2 x7_1).f1) != a1) = true := bne_iff_ne.mpr c8
              have H' := Aside0.mk H
              clear H
              have hcz10_0 : wr.cell? ⟨gb164, 0, none⟩ = some (.int .i64 a0_0) := (blk_cell BK164.out 0).trans rfl
              have hcz10_1 : wr.cell? ⟨gb164, 1, none⟩ = some (.slice A0_1 l0_1.length c0_1) := (blk_cell BK164.out 1).trans rfl
              have hcz10_2 : wr.cell? ⟨gb164, 2, none⟩ = some (.slice A0_2 l0_2.length c0_2) := (blk_cell BK164.out 2).trans rfl
              have hcz10_3 : wr.cell? ⟨gb164, 3, none⟩ = some (.slice A0_3 l0_3.length c0_3) := (blk_cell BK164.out 3).trans rfl
              have hfz10_0 := blk_frozen BK164.out 0
              have hfz10_1 := blk_frozen BK164.out 1
              have hfz10_2 := blk_frozen BK164.out 2
              have hfz10_3 := blk_frozen BK164.out 3
              have p165 : 0 ≤ (x7_1 : Int) := of_decide_eq_true (by first | (with_reducible assumption) | assumption)
              have q165 : x7_1 < (l0_2.length : Int) := of_decide_eq_true (by first | (with_reducible assumption) | assumption)
              obtain ⟨ad165, e165, hx165_0, hx165_1, hx165_2, hx165_3, hx165_4⟩ := at_T72 HR0_2.out x7_1 p165 q165
              cases e165
              replace hx165_0 := (HB.out.cell (World.block_lt_of_cell? w _ hx165_0)).trans hx165_0
              replace hx165_1 := (HB.out.cell (World.block_lt_of_cell? w _ hx165_1)).trans hx165_1
              replace hx165_2 := (HB.out.cell (World.block_lt_of_cell? w _ hx165_2)).trans hx165_2
              replace hx165_3 := (HB.out.cell (World.block_lt_of_cell? w _ hx165_3)).trans hx165_3
              replace hx165_4 := (HB.out.cell (World.block_lt_of_cell? w _ hx165_4)).trans hx165_4
              replace p165 := eq_true p165
              replace q165 := eq_true q165
              go_wp2
              go_roundg k1
              case measure => have := HK1.out; omega
              case rel => exact ⟨(wrap64 (x7_1 - 1)), (by first | rfl | (simp; done) | (simp [*]; done)), H', ⟨by have := HK1.out; omega⟩, ⟨by (with_reducible repeat (first | refine qN ?_ _ | refine qD ?_ | refine qA ?_ _)); exact BK164.out⟩, ⟨by repeat (first | (with_reducible first | exact HB.out | apply pA | apply pN | apply pD | refine pS ?_ GE164.out) | exact HB.out)⟩⟩
          · rw [if_neg c7] at H
            exact absurd H (by simp)
        · rw [if_neg c6] at H
          exact absurd H (by simp)
      · rw [if_neg c5] at H
        have c5b0 : decide (0 ≤ x7_1) = false := decide_eq_false c5
        clear c5
        obtain rfl := Option.some.inj H
        go_wp2
        go_ret
        exact ⟨by first | rfl | (simp [errW_none, errW_some] <;> rfl) | (simp [*, errW_none, errW_some] <;> rfl), by repeat (first | (with_reducible first | exact HB.out | apply pA | apply pN | apply pD | refine pS ?_ GE164.out) | exact HB.out)⟩

end Go.Proofs.Ytocjadhpaecpaaa.Q

-- written by this session's own program (wip/tools/myprint.py), over the kit's print
import Derived.Test.YtpbkdphilcodmaaQx0
namespace Go.Proofs.Ytpbkdphilcodmaa.Q
open Go.RowKit Go.Proofs.YtpbkdphilcodmaaW.PrintWords Go.Proofs.YtpbkdphilcodmaaW.PrintLast Go.Proofs.YtpbkdphilcodmaaW.PrintMore
open Go.Proofs.YtpbkdphilcodmaaV
attribute [local go_sem] max2_int min2_int max_two min_two max_three min_three max_four min_four   -- for this text's walks alone
set_option linter.unusedVariables false
set_option linter.unusedSimpArgs false

/-! ### portreeveref15_Users: function 11 -/
mutual
def portreeveref15_Users.l0 : Nat → List (S54) → Int → Option (Bool)
  | 0, _, _ => none
  | k + 1, x0, x3 => if x3 < (x0.length : Int) then (if 0 ≤ x3 then (if x3 > 7 then (portreeveref15_Users.j1 k x0 x3 true ((rd_T54 x0 x3).f0) ((rd_T54 x0 x3).f1)) else (if (((rd_T54 x0 x3).f0).size : Int) < 1 then (portreeveref15_Users.j1 k x0 x3 true ((rd_T54 x0 x3).f0) ((rd_T54 x0 x3).f1)) else (if (((rd_T54 x0 x3).f0).size : Int) > 16 then (portreeveref15_Users.j1 k x0 x3 true ((rd_T54 x0 x3).f0) ((rd_T54 x0 x3).f1)) else (if (((rd_T54 x0 x3).f1).size : Int) < 1 then (portreeveref15_Users.j1 k x0 x3 true ((rd_T54 x0 x3).f0) ((rd_T54 x0 x3).f1)) else (portreeveref15_Users.j1 k x0 x3 (decide ((((rd_T54 x0 x3).f1).size : Int) > 32)) ((rd_T54 x0 x3).f0) ((rd_T54 x0 x3).f1)))))) else (none)) else (some true)
def portreeveref15_Users.j1 : Nat → List (S54) → Int → Bool → ByteArray → ByteArray → Option (Bool)
  | 0, _, _, _, _, _ => none
  | k + 1, x0, x3, x41, x162000, x162001 => if x41 = true then (some false) else (portreeveref15_Users.l1 k x0 x3 0 x162000 x162001)
def portreeveref15_Users.l1 : Nat → List (S54) → Int → Int → ByteArray → ByteArray → Option (Bool)
  | 0, _, _, _, _, _ => none
  | k + 1, x0, x3, x5, x162000, x162001 => if x5 < x3 then (if 0 ≤ x5 then (if x5 < (x0.length : Int) then (if ((rd_T54 x0 x5).f0).toList = x162000.toList then (some false) else (portreeveref15_Users.l1 k x0 x3 (wrap64 (x5 + 1)) x162000 x162001)) else (none)) else (none)) else (portreeveref15_Users.l0 k x0 (wrap64 (x3 + 1)))
end
def portreeveref15_Users.f (k : Nat) (l0 : List (S54)) : Option (Bool) := portreeveref15_Users.l0 k l0 0
theorem portreeveref15_Users.mono_l : ∀ k, (∀ y0 y1, LeO (portreeveref15_Users.l0 k y0 y1) (portreeveref15_Users.l0 (k + 1) y0 y1)) ∧ (∀ y0 y1 y2 y3 y4, LeO (portreeveref15_Users.j1 k y0 y1 y2 y3 y4) (portreeveref15_Users.j1 (k + 1) y0 y1 y2 y3 y4)) ∧ (∀ y0 y1 y2 y3 y4, LeO (portreeveref15_Users.l1 k y0 y1 y2 y3 y4) (portreeveref15_Users.l1 (k + 1) y0 y1 y2 y3 y4))
  | 0 => ⟨fun _ _ r h => by simp [portreeveref15_Users.l0] at h, fun _ _ _ _ _ r h => by simp [portreeveref15_Users.j1] at h, fun _ _ _ _ _ r h => by simp [portreeveref15_Users.l1] at h⟩
  | k + 1 => by
    obtain ⟨ih0, ih1, ih2⟩ := portreeveref15_Users.mono_l k
    refine ⟨?_, ?_, ?_⟩
    · intro y0 y1
      unfold portreeveref15_Users.l0
      repeat' first
      | (with_reducible exact ih0 _ _)
      | (with_reducible exact ih1 _ _ _ _ _)
      | (with_reducible exact ih2 _ _ _ _ _)
      | (with_reducible exact LeO.refl _)
      | (with_reducible exact LeO.none _)
      | (with_reducible refine LeO.ite ?_ ?_)
      | (with_reducible refine LeO.bind ?_ (fun _ => ?_))
      | exact ih0 _ _
      | exact ih1 _ _ _ _ _
      | exact ih2 _ _ _ _ _
      | exact LeO.none _
      | refine LeO.ite ?_ ?_
      | refine LeO.bind ?_ (fun _ => ?_)
    · intro y0 y1 y2 y3 y4
      unfold portreeveref15_Users.j1
      repeat' first
      | (with_reducible exact ih0 _ _)
      | (with_reducible exact ih1 _ _ _ _ _)
      | (with_reducible exact ih2 _ _ _ _ _)
      | (with_reducible exact LeO.refl _)
      | (with_reducible exact LeO.none _)
      | (with_reducible refine LeO.ite ?_ ?_)
      | (with_reducible refine LeO.bind ?_ (fun _ => ?_))
      | exact ih0 _ _
      | exact ih1 _ _ _ _ _
      | exact ih2 _ _ _ _ _
      | exact LeO.none _
      | refine LeO.ite ?_ ?_
      | refine LeO.bind ?_ (fun _ => ?_)
    · intro y0 y1 y2 y3 y4
      unfold portreeveref15_Users.l1
      repeat' first
      | (with_reducible exact ih0 _ _)
      | (with_reducible exact ih1 _ _ _ _ _)
      | (with_reducible exact ih2 _ _ _ _ _)
      | (with_reducible exact LeO.refl _)
      | (with_reducible exact LeO.none _)
      | (with_reducible refine LeO.ite ?_ ?_)
      | (with_reducible refine LeO.bind ?_ (fun _ => ?_))
      | exact ih0 _ _
      | exact ih1 _ _ _ _ _
      | exact ih2 _ _ _ _ _
      | exact LeO.none _
      | refine LeO.ite ?_ ?_
      | refine LeO.bind ?_ (fun _ => ?_)
theorem portreeveref15_Users.mono : ∀ a0 k, LeO (portreeveref15_Users.f k a0) (portreeveref15_Users.f (k + 1) a0) := by
  intro a0 k
  obtain ⟨ih0, ih1, ih2⟩ := portreeveref15_Users.mono_l k
  unfold portreeveref15_Users.f
  repeat' first
      | (with_reducible exact ih0 _ _)
      | (with_reducible exact ih1 _ _ _ _ _)
      | (with_reducible exact ih2 _ _ _ _ _)
      | (with_reducible exact LeO.refl _)
      | (with_reducible exact LeO.none _)
      | (with_reducible refine LeO.ite ?_ ?_)
      | (with_reducible refine LeO.bind ?_ (fun _ => ?_))
      | exact ih0 _ _
      | exact ih1 _ _ _ _ _
      | exact ih2 _ _ _ _ _
      | exact LeO.none _
      | refine LeO.ite ?_ ?_
      | refine LeO.bind ?_ (fun _ => ?_)
set_option maxHeartbeats 8000000 in
set_option maxRecDepth 100000 in
theorem portreeveref15_Users.calls (k : Nat) (A0 : Option Addr) (c0 : Nat) (l0 : List (S54)) (r : Bool) (w : World) (hr0 : Kd.C k54 w A0 l0.length l0) (hc0 : l0.length ≤ c0) (h : portreeveref15_Users.f k l0 = some r) :
    Calls Try.prog 11 #[.slice A0 l0.length c0] w fun e w' => e = .returned (.bool r) ∧ Below w.heap.size w w' := by
  have hu54 := Try.underlying54
  have HR0 := Aside0.mk hr0
  have HC0 := Aside0.mk hc0
  clear hr0 hc0
  have HB := Aside0.mk (Below.refl w.heap.size w)
  have H : (portreeveref15_Users.l0 k l0 0) = some r := h
  clear h
  have H' := Aside0.mk H
  clear H
  go_enter Try.func11, Try.ntmps11
  go_wp2
  repeat (go_quiet (fail); try go_wp2)
  go_loopg [3] k (fun kq v3 w' => ∃ (x3_1 : Int), v3 = .int .i64 x3_1 ∧ Aside0 (portreeveref15_Users.l0 kq l0 x3_1 = some r) ∧ Aside0 (kq ≤ k) ∧ Aside0 (Below w.heap.size w w'))
  case atStart => exact ⟨(0), (by first | rfl | (simp; done) | (simp [*]; done)), H', ⟨Nat.le_refl _⟩, ⟨by repeat (first | (with_reducible first | exact HB.out | apply pA | apply pN | apply pD) | exact HB.out)⟩⟩
  case round =>
    clear H'
    try clear c1
    obtain ⟨x3_1, rfl, HA, HK1, HB⟩ := hrel
    cases gk with
    | zero => exact absurd HA.out (by simp [portreeveref15_Users.l0])
    | succ k1 =>
      have H := HA.out
      clear HA
      simp only [portreeveref15_Users.l0] at H
      by_cases c2 : x3_1 < (l0.length : Int)
      · rw [if_pos c2] at H
        have c2b0 : decide (x3_1 < (l0.length : Int)) = true := decide_eq_true c2
        clear c2
        by_cases c3 : 0 ≤ x3_1
        · rw [if_pos c3] at H
          have c3b0 : decide (0 ≤ x3_1) = true := decide_eq_true c3
          clear c3
          have HC4 := Aside0.mk H
          clear H
          have p160 : 0 ≤ (x3_1 : Int) := of_decide_eq_true (by first | (with_reducible assumption) | assumption)
          have q160 : x3_1 < (l0.length : Int) := of_decide_eq_true (by first | (with_reducible assumption) | assumption)
          obtain ⟨ad160, e160, hx160_0, hx160_1⟩ := at_T54 HR0.out x3_1 p160 q160
          cases e160
          replace hx160_0 := (HB.out.cell (World.block_lt_of_cell? w _ hx160_0)).trans hx160_0
          replace hx160_1 := (HB.out.cell (World.block_lt_of_cell? w _ hx160_1)).trans hx160_1
          replace p160 := eq_true p160
          replace q160 := eq_true q160
          go_upto_region 5 with (first | ((with_reducible refine gate_dst (N := 4) rfl ?_); (try (refine gate_guard (by rfl) ?_; dsimp only)); refine box_event ?hg (N := 4) ?hd (cs := #[.string (⟨#[]⟩ : ByteArray), .string (⟨#[]⟩ : ByteArray)]) (t := 54) ?hr ?_; (case hd => rfl); (case hg => rfl); (case hr => first | (go_simp; done) | (go_simp; rfl)); intro gb161 hg w5 hbox hb; have n0_ := Aside0.mk (below_step (by repeat (first | (with_reducible first | exact HB.out | apply pA | apply pN | apply pD) | exact HB.out)) hb); have n1_ := Aside0.mk (hbox); have n2_ := Aside0.mk ((by rw [hg]; exact (below_size (by repeat (first | (with_reducible first | exact HB.out | apply pA | apply pN | apply pD) | exact HB.out))) : w.heap.size ≤ gb161)); have n3_ := Aside0.mk ((by rw [hg]; exact (below_size (by repeat (first | (with_reducible first | exact HB.out | apply pA | apply pN | apply pD) | exact HB.out))) : w.heap.size ≤ gb161)); clear HB; have HB := n0_; have BK161 := n1_; have GW161 := n2_; have GE161 := n3_; clear n0_ n1_ n2_ n3_; clear hb hbox hg; have hcz6_0 : w5.cell? ⟨gb161, 0, none⟩ = some (.string (⟨#[]⟩ : ByteArray)) := (blk_cell BK161.out 0).trans rfl; have hcz6_1 : w5.cell? ⟨gb161, 1, none⟩ = some (.string (⟨#[]⟩ : ByteArray)) := (blk_cell BK161.out 1).trans rfl; have hfz6_0 := blk_frozen BK161.out 0; have hfz6_1 := blk_frozen BK161.out 1))
          repeat (go_quiet (first | ((with_reducible refine gate_dst (N := 4) rfl ?_); (try (refine gate_guard (by rfl) ?_; dsimp only)); refine box_event ?hg (N := 4) ?hd (cs := #[.string (⟨#[]⟩ : ByteArray), .string (⟨#[]⟩ : ByteArray)]) (t := 54) ?hr ?_; (case hd => rfl); (case hg => rfl); (case hr => first | (go_simp; done) | (go_simp; rfl)); intro gb161 hg w5 hbox hb; have n0_ := Aside0.mk (below_step (by repeat (first | (with_reducible first | exact HB.out | apply pA | apply pN | apply pD) | exact HB.out)) hb); have n1_ := Aside0.mk (hbox); have n2_ := Aside0.mk ((by rw [hg]; exact (below_size (by repeat (first | (with_reducible first | exact HB.out | apply pA | apply pN | apply pD) | exact HB.out))) : w.heap.size ≤ gb161)); have n3_ := Aside0.mk ((by rw [hg]; exact (below_size (by repeat (first | (with_reducible first | exact HB.out | apply pA | apply pN | apply pD) | exact HB.out))) : w.heap.size ≤ gb161)); clear HB; have HB := n0_; have BK161 := n1_; have GW161 := n2_; have GE161 := n3_; clear n0_ n1_ n2_ n3_; clear hb hbox hg; have hcz6_0 : w5.cell? ⟨gb161, 0, none⟩ = some (.string (⟨#[]⟩ : ByteArray)) := (blk_cell BK161.out 0).trans rfl; have hcz6_1 : w5.cell? ⟨gb161, 1, none⟩ = some (.string (⟨#[]⟩ : ByteArray)) := (blk_cell BK161.out 1).trans rfl; have hfz6_0 := blk_frozen BK161.out 0; have hfz6_1 := blk_frozen BK161.out 1)); go_upto_region 5 with (first | ((with_reducible refine gate_dst (N := 4) rfl ?_); (try (refine gate_guard (by rfl) ?_; dsimp only)); refine box_event ?hg (N := 4) ?hd (cs := #[.string (⟨#[]⟩ : ByteArray), .string (⟨#[]⟩ : ByteArray)]) (t := 54) ?hr ?_; (case hd => rfl); (case hg => rfl); (case hr => first | (go_simp; done) | (go_simp; rfl)); intro gb161 hg w5 hbox hb; have n0_ := Aside0.mk (below_step (by repeat (first | (with_reducible first | exact HB.out | apply pA | apply pN | apply pD) | exact HB.out)) hb); have n1_ := Aside0.mk (hbox); have n2_ := Aside0.mk ((by rw [hg]; exact (below_size (by repeat (first | (with_reducible first | exact HB.out | apply pA | apply pN | apply pD) | exact HB.out))) : w.heap.size ≤ gb161)); have n3_ := Aside0.mk ((by rw [hg]; exact (below_size (by repeat (first | (with_reducible first | exact HB.out | apply pA | apply pN | apply pD) | exact HB.out))) : w.heap.size ≤ gb161)); clear HB; have HB := n0_; have BK161 := n1_; have GW161 := n2_; have GE161 := n3_; clear n0_ n1_ n2_ n3_; clear hb hbox hg; have hcz6_0 : w5.cell? ⟨gb161, 0, none⟩ = some (.string (⟨#[]⟩ : ByteArray)) := (blk_cell BK161.out 0).trans rfl; have hcz6_1 : w5.cell? ⟨gb161, 1, none⟩ = some (.string (⟨#[]⟩ : ByteArray)) := (blk_cell BK161.out 1).trans rfl; have hfz6_0 := blk_frozen BK161.out 0; have hfz6_1 := blk_frozen BK161.out 1)))
          (try simp only [Act.put, List.setIfInBounds_toArray, List.set_cons_zero, List.set_cons_succ])
          go_cut [41] (fun v41 wc => ∃ (kq : Nat) (x41_3 : Bool), v41 = .bool x41_3 ∧ Aside0 (portreeveref15_Users.j1 kq l0 x3_1 x41_3 ((rd_T54 l0 x3_1).f0) ((rd_T54 l0 x3_1).f1) = some r) ∧ Aside0 (kq ≤ k1) ∧ Aside0 (wc.heap[gb161]? = some (.cells #[.string ((rd_T54 l0 x3_1).f0), .string ((rd_T54 l0 x3_1).f1)] 54 (0, 0))) ∧ Aside0 (Below w.heap.size w wc))
          case first =>
            have H := HC4.out
            clear HC4
            by_cases c7 : x3_1 > 7
            · rw [if_pos c7] at H
              have c7b0 : decide (7 < x3_1) = true := decide_eq_true c7
              clear c7
              (first | rw [c7b0] | (simp only [i64_w, i32_w]; rw [c7b0]) | skip)
              have H' := Aside0.mk H
              clear H
              go_wp2
              repeat (go_quiet (fail); try go_wp2)
              go_meet
              case rel => exact ⟨_, (true), (by first | rfl | (simp; done) | (simp [*]; done)), H', ⟨by have := HK1.out; first | omega | exact Nat.le_refl _⟩, ⟨by (with_reducible repeat (first | refine qN ?_ _ | refine qD ?_ | refine qA ?_ _)); refine blk_put (cs := #[.string ((rd_T54 l0 x3_1).f0), .string (⟨#[]⟩ : ByteArray)]) ?_ 1 _ rfl; (with_reducible repeat (first | refine qN ?_ _ | refine qD ?_ | refine qA ?_ _)); refine blk_put (cs := #[.string (⟨#[]⟩ : ByteArray), .string (⟨#[]⟩ : ByteArray)]) ?_ 0 _ rfl; (with_reducible repeat (first | refine qN ?_ _ | refine qD ?_ | refine qA ?_ _)); exact BK161.out⟩, ⟨by repeat (first | (with_reducible first | exact HB.out | apply pA | apply pN | apply pD | refine pS ?_ GE161.out) | exact HB.out)⟩⟩
            · rw [if_neg c7] at H
              have c7b0 : decide (7 < x3_1) = false := decide_eq_false c7
              clear c7
              (first | rw [c7b0] | (simp only [i64_w, i32_w]; rw [c7b0]) | skip)
              by_cases c8 : (((rd_T54 l0 x3_1).f0).size : Int) < 1
              · rw [if_pos c8] at H
                have c8b0 : decide ((((rd_T54 l0 x3_1).f0).size : Int) < 1) = true := decide_eq_true c8
                have c8b1 : decide (((rd_T54 l0 x3_1).f0).size < 1) = true := decide_eq_true (by omega)
                clear c8
                have H' := Aside0.mk H
                clear H
                have hcz9_0 : w5.cell? ⟨gb161, 0, none⟩ = some (.string (⟨#[]⟩ : ByteArray)) := (blk_cell BK161.out 0).trans rfl
                have hcz9_1 : w5.cell? ⟨gb161, 1, none⟩ = some (.string (⟨#[]⟩ : ByteArray)) := (blk_cell BK161.out 1).trans rfl
                have hfz9_0 := blk_frozen BK161.out 0
                have hfz9_1 := blk_frozen BK161.out 1
                go_wp2
                repeat (go_quiet (fail); try go_wp2)
                go_meet
                case rel => exact ⟨_, (true), (by first | rfl | (simp; done) | (simp [*]; done)), H', ⟨by have := HK1.out; first | omega | exact Nat.le_refl _⟩, ⟨by (with_reducible repeat (first | refine qN ?_ _ | refine qD ?_ | refine qA ?_ _)); refine blk_put (cs := #[.string ((rd_T54 l0 x3_1).f0), .string (⟨#[]⟩ : ByteArray)]) ?_ 1 _ rfl; (with_reducible repeat (first | refine qN ?_ _ | refine qD ?_ | refine qA ?_ _)); refine blk_put (cs := #[.string (⟨#[]⟩ : ByteArray), .string (⟨#[]⟩ : ByteArray)]) ?_ 0 _ rfl; (with_reducible repeat (first | refine qN ?_ _ | refine qD ?_ | refine qA ?_ _)); exact BK161.out⟩, ⟨by repeat (first | (with_reducible first | exact HB.out | apply pA | apply pN | apply pD | refine pS ?_ GE161.out) | exact HB.out)⟩⟩
              · rw [if_neg c8] at H
                have c8b0 : decide ((((rd_T54 l0 x3_1).f0).size : Int) < 1) = false := decide_eq_false c8
                have c8b1 : decide (((rd_T54 l0 x3_1).f0).size < 1) = false := decide_eq_false (by omega)
                clear c8
                by_cases c10 : (((rd_T54 l0 x3_1).f0).size : Int) > 16
                · rw [if_pos c10] at H
                  have c10b0 : decide (16 < (((rd_T54 l0 x3_1).f0).size : Int)) = true := decide_eq_true c10
                  have c10b1 : decide (16 < ((rd_T54 l0 x3_1).f0).size) = true := decide_eq_true (by omega)
                  clear c10
                  have H' := Aside0.mk H
                  clear H
                  have hcz11_0 : w5.cell? ⟨gb161, 0, none⟩ = some (.string (⟨#[]⟩ : ByteArray)) := (blk_cell BK161.out 0).trans rfl
                  have hcz11_1 : w5.cell? ⟨gb161, 1, none⟩ = some (.string (⟨#[]⟩ : ByteArray)) := (blk_cell BK161.out 1).trans rfl
                  have hfz11_0 := blk_frozen BK161.out 0
                  have hfz11_1 := blk_frozen BK161.out 1
                  go_wp2
                  repeat (go_quiet (fail); try go_wp2)
                  go_meet
                  case rel => exact ⟨_, (true), (by first | rfl | (simp; done) | (simp [*]; done)), H', ⟨by have := HK1.out; first | omega | exact Nat.le_refl _⟩, ⟨by (with_reducible repeat (first | refine qN ?_ _ | refine qD ?_ | refine qA ?_ _)); refine blk_put (cs := #[.string ((rd_T54 l0 x3_1).f0), .string (⟨#[]⟩ : ByteArray)]) ?_ 1 _ rfl; (with_reducible repeat (first | refine qN ?_ _ | refine qD ?_ | refine qA ?_ _)); refine blk_put (cs := #[.string (⟨#[]⟩ : ByteArray), .string (⟨#[]⟩ : ByteArray)]) ?_ 0 _ rfl; (with_reducible repeat (first | refine qN ?_ _ | refine qD ?_ | refine qA ?_ _)); exact BK161.out⟩, ⟨by repeat (first | (with_reducible first | exact HB.out | apply pA | apply pN | apply pD | refine pS ?_ GE161.out) | exact HB.out)⟩⟩
                · rw [if_neg c10] at H
                  have c10b0 : decide (16 < (((rd_T54 l0 x3_1).f0).size : Int)) = false := decide_eq_false c10
                  have c10b1 : decide (16 < ((rd_T54 l0 x3_1).f0).size) = false := decide_eq_false (by omega)
                  clear c10
                  by_cases c12 : (((rd_T54 l0 x3_1).f1).size : Int) < 1
                  · rw [if_pos c12] at H
                    have c12b0 : decide ((((rd_T54 l0 x3_1).f1).size : Int) < 1) = true := decide_eq_true c12
                    have c12b1 : decide (((rd_T54 l0 x3_1).f1).size < 1) = true := decide_eq_true (by omega)
                    clear c12
                    have H' := Aside0.mk H
                    clear H
                    have hcz13_0 : w5.cell? ⟨gb161, 0, none⟩ = some (.string (⟨#[]⟩ : ByteArray)) := (blk_cell BK161.out 0).trans rfl
                    have hcz13_1 : w5.cell? ⟨gb161, 1, none⟩ = some (.string (⟨#[]⟩ : ByteArray)) := (blk_cell BK161.out 1).trans rfl
                    have hfz13_0 := blk_frozen BK161.out 0
                    have hfz13_1 := blk_frozen BK161.out 1
                    go_wp2
                    repeat (go_quiet (fail); try go_wp2)
                    go_meet
                    case rel => exact ⟨_, (true), (by first | rfl | (simp; done) | (simp [*]; done)), H', ⟨by have := HK1.out; first | omega | exact Nat.le_refl _⟩, ⟨by (with_reducible repeat (first | refine qN ?_ _ | refine qD ?_ | refine qA ?_ _)); refine blk_put (cs := #[.string ((rd_T54 l0 x3_1).f0), .string (⟨#[]⟩ : ByteArray)]) ?_ 1 _ rfl; (with_reducible repeat (first | refine qN ?_ _ | refine qD ?_ | refine qA ?_ _)); refine blk_put (cs := #[.string (⟨#[]⟩ : ByteArray), .string (⟨#[]⟩ : ByteArray)]) ?_ 0 _ rfl; (with_reducible repeat (first | refine qN ?_ _ | refine qD ?_ | refine qA ?_ _)); exact BK161.out⟩, ⟨by repeat (first | (with_reducible first | exact HB.out | apply pA | apply pN | apply pD | refine pS ?_ GE161.out) | exact HB.out)⟩⟩
                  · rw [if_neg c12] at H
                    have c12b0 : decide ((((rd_T54 l0 x3_1).f1).size : Int) < 1) = false := decide_eq_false c12
                    have c12b1 : decide (((rd_T54 l0 x3_1).f1).size < 1) = false := decide_eq_false (by omega)
                    clear c12
                    have H' := Aside0.mk H
                    clear H
                    have hcz14_0 : w5.cell? ⟨gb161, 0, none⟩ = some (.string (⟨#[]⟩ : ByteArray)) := (blk_cell BK161.out 0).trans rfl
                    have hcz14_1 : w5.cell? ⟨gb161, 1, none⟩ = some (.string (⟨#[]⟩ : ByteArray)) := (blk_cell BK161.out 1).trans rfl
                    have hfz14_0 := blk_frozen BK161.out 0
                    have hfz14_1 := blk_frozen BK161.out 1
                    go_wp2
                    repeat (go_quiet (fail); try go_wp2)
                    go_meet
                    case rel => exact ⟨_, (decide ((((rd_T54 l0 x3_1).f1).size : Int) > 32)), (by first | rfl | (simp; done) | (simp [*]; done)), H', ⟨by have := HK1.out; first | omega | exact Nat.le_refl _⟩, ⟨by (with_reducible repeat (first | refine qN ?_ _ | refine qD ?_ | refine qA ?_ _)); refine blk_put (cs := #[.string ((rd_T54 l0 x3_1).f0), .string (⟨#[]⟩ : ByteArray)]) ?_ 1 _ rfl; (with_reducible repeat (first | refine qN ?_ _ | refine qD ?_ | refine qA ?_ _)); refine blk_put (cs := #[.string (⟨#[]⟩ : ByteArray), .string (⟨#[]⟩ : ByteArray)]) ?_ 0 _ rfl; (with_reducible repeat (first | refine qN ?_ _ | refine qD ?_ | refine qA ?_ _)); exact BK161.out⟩, ⟨by repeat (first | (with_reducible first | exact HB.out | apply pA | apply pN | apply pD | refine pS ?_ GE161.out) | exact HB.out)⟩⟩
          case rest =>
            clear HC4
            try clear c1
            try clear p1
            try clear q1
            try clear hx1
            try clear c2
            try clear c2b0
            try clear p2
            try clear c3
            try clear c3b0
            try clear c7
            try clear c7b0
            try clear c8
            try clear c8b0
            try clear c8b1
            try clear c10
            try clear c10b0
            try clear c10b1
            try clear c11
            try clear c12
            try clear c12b0
            try clear c12b1
            try clear hcz11_0
            try clear hcz11_1
            try clear hcz13_0
            try clear hcz13_1
            try clear hcz14_0
            try clear hcz14_1
            try clear hcz6_0
            try clear hcz6_1
            try clear hcz9_0
            try clear hcz9_1
            try clear hfz11_0
            try clear hfz11_1
            try clear hfz13_0
            try clear hfz13_1
            try clear hfz14_0
            try clear hfz14_1
            try clear hfz6_0
            try clear hfz6_1
            try clear hfz9_0
            try clear hfz9_1
            try clear hx160_0
            try clear hx160_1
            try clear p160
            try clear q160
            obtain ⟨kq, x41_3, rfl, HA, HJ3, BK161, HB⟩ := hcut
            cases kq with
            | zero => exact absurd HA.out (by simp [portreeveref15_Users.j1])
            | succ kj3 =>
              have H := HA.out
              clear HA
              simp only [portreeveref15_Users.j1] at H
              by_cases c15 : x41_3 = true
              · subst c15
                have H1 : (some false) = some r := by rw [if_pos rfl] at H; exact H
                clear H
                have H := H1
                clear H1
                obtain rfl := Option.some.inj H
                go_wp2
                repeat (go_quiet (fail); try go_wp2)
                go_ret
                exact ⟨by first | rfl | (simp [errW_none, errW_some] <;> rfl) | (simp [*, errW_none, errW_some] <;> rfl), by repeat (first | (with_reducible first | exact HB.out | apply pA | apply pN | apply pD | refine pS ?_ GE161.out) | exact HB.out)⟩
              · replace c15 := Bool.eq_false_iff.mpr c15
                subst c15
                have H1 : (portreeveref15_Users.l1 kj3 l0 x3_1 0 ((rd_T54 l0 x3_1).f0) ((rd_T54 l0 x3_1).f1)) = some r := by rw [if_neg (show ¬ (false = true) by decide)] at H; exact H
                clear H
                have H := H1
                clear H1
                have H' := Aside0.mk H
                clear H
                go_wp2
                repeat (go_quiet (fail); try go_wp2)
                go_loopg [5] kj3 (fun kq v5 w' => ∃ (x5_3 : Int), v5 = .int .i64 x5_3 ∧ Aside0 (portreeveref15_Users.l1 kq l0 x3_1 x5_3 ((rd_T54 l0 x3_1).f0) ((rd_T54 l0 x3_1).f1) = some r) ∧ Aside0 (kq ≤ kj3) ∧ Aside0 (w'.heap[gb161]? = some (.cells #[.string ((rd_T54 l0 x3_1).f0), .string ((rd_T54 l0 x3_1).f1)] 54 (0, 0))) ∧ Aside0 (Below w.heap.size w w'))
                case atStart => exact ⟨(0), (by first | rfl | (simp; done) | (simp [*]; done)), H', ⟨Nat.le_refl _⟩, ⟨by (with_reducible repeat (first | refine qN ?_ _ | refine qD ?_ | refine qA ?_ _)); exact BK161.out⟩, ⟨by repeat (first | (with_reducible first | exact HB.out | apply pA | apply pN | apply pD | refine pS ?_ GE161.out) | exact HB.out)⟩⟩
                case round =>
                  clear H'
                  try clear c1
                  try clear p1
                  try clear q1
                  try clear hx1
                  try clear c2
                  try clear c2b0
                  try clear p2
                  try clear c3
                  try clear c3b0
                  try clear c7
                  try clear c7b0
                  try clear c8
                  try clear c8b0
                  try clear c8b1
                  try clear c10
                  try clear c10b0
                  try clear c10b1
                  try clear c11
                  try clear c12
                  try clear c12b0
                  try clear c12b1
                  try clear c15
                  try clear hcz11_0
                  try clear hcz11_1
                  try clear hcz13_0
                  try clear hcz13_1
                  try clear hcz14_0
                  try clear hcz14_1
                  try clear hcz6_0
                  try clear hcz6_1
                  try clear hcz9_0
                  try clear hcz9_1
                  try clear hfz11_0
                  try clear hfz11_1
                  try clear hfz13_0
                  try clear hfz13_1
                  try clear hfz14_0
                  try clear hfz14_1
                  try clear hfz6_0
                  try clear hfz6_1
                  try clear hfz9_0
                  try clear hfz9_1
                  try clear hx160_0
                  try clear hx160_1
                  try clear p1
                  try clear p160
                  try clear p2
                  try clear q1
                  try clear q160
                  obtain ⟨x5_3, rfl, HA, HK3, BK161, HB⟩ := hrel
                  cases gk with
                  | zero => exact absurd HA.out (by simp [portreeveref15_Users.l1])
                  | succ k3 =>
                    have H := HA.out
                    clear HA
                    simp only [portreeveref15_Users.l1] at H
                    by_cases c16 : x5_3 < x3_1
                    · rw [if_pos c16] at H
                      have c16b0 : decide (x5_3 < x3_1) = true := decide_eq_true c16
                      clear c16
                      by_cases c17 : 0 ≤ x5_3
                      · rw [if_pos c17] at H
                        have c17b0 : decide (0 ≤ x5_3) = true := decide_eq_true c17
                        clear c17
                        by_cases c18 : x5_3 < (l0.length : Int)
                        · rw [if_pos c18] at H
                          have c18b0 : decide (x5_3 < (l0.length : Int)) = true := decide_eq_true c18
                          clear c18
                          by_cases c19 : ((rd_T54 l0 x5_3).f0).toList = ((rd_T54 l0 x3_1).f0).toList
                          · rw [if_pos c19] at H
                            have c19b0 : (((rd_T54 l0 x5_3).f0).toList == ((rd_T54 l0 x3_1).f0).toList) = true := beq_iff_eq.mpr c19
                            have c19b1 : (((rd_T54 l0 x5_3).f0).toList != ((rd_T54 l0 x3_1).f0).toList) = false := bne_eq_false_iff_eq.mpr c19
                            clear c19
                            obtain rfl := Option.some.inj H
                            have p162 : 0 ≤ (x5_3 : Int) := of_decide_eq_true (by first | (with_reducible assumption) | assumption)
                            have q162 : x5_3 < (l0.length : Int) := of_decide_eq_true (by first | (with_reducible assumption) | assumption)
                            obtain ⟨ad162, e162, hx162_0, hx162_1⟩ := at_T54 HR0.out x5_3 p162 q162
                            obtain rfl : ad160 = ad162 := (by injection e162)
                            replace hx162_0 := (HB.out.cell (World.block_lt_of_cell? w _ hx162_0)).trans hx162_0
                            replace hx162_1 := (HB.out.cell (World.block_lt_of_cell? w _ hx162_1)).trans hx162_1
                            replace p162 := eq_true p162
                            replace q162 := eq_true q162
                            have hcz20_0 : wr.cell? ⟨gb161, 0, none⟩ = some (.string ((rd_T54 l0 x3_1).f0)) := (blk_cell BK161.out 0).trans rfl
                            have hcz20_1 : wr.cell? ⟨gb161, 1, none⟩ = some (.string ((rd_T54 l0 x3_1).f1)) := (blk_cell BK161.out 1).trans rfl
                            have hfz20_0 := blk_frozen BK161.out 0
                            have hfz20_1 := blk_frozen BK161.out 1
                            go_wp2
                            repeat (go_quiet (fail); try go_wp2)
                            go_ret
                            exact ⟨by first | rfl | (simp [errW_none, errW_some] <;> rfl) | (simp [*, errW_none, errW_some] <;> rfl), by repeat (first | (with_reducible first | exact HB.out | apply pA | apply pN | apply pD | refine pS ?_ GE161.out) | exact HB.out)⟩
                          · rw [if_neg c19] at H
                            have c19b0 : (((rd_T54 l0 x5_3).f0).toList == ((rd_T54 l0 x3_1).f0).toList) = false := beq_eq_false_iff_ne.mpr c19
                            have c19b1 : (((rd_T54 l0 x5_3).f0).toList != ((rd_T54 l0 x3_1).f0).toList) = true := bne_iff_ne.mpr c19
                            have H' := Aside0.mk H
                            clear H
                            have p162 : 0 ≤ (x5_3 : Int) := of_decide_eq_true (by first | (with_reducible assumption) | assumption)
                            have q162 : x5_3 < (l0.length : Int) := of_decide_eq_true (by first | (with_reducible assumption) | assumption)
                            obtain ⟨ad162, e162, hx162_0, hx162_1⟩ := at_T54 HR0.out x5_3 p162 q162
                            obtain rfl : ad160 = ad162 := (by injection e162)
                            replace hx162_0 := (HB.out.cell (World.block_lt_of_cell? w _ hx162_0)).trans hx162_0
                            replace hx162_1 := (HB.out.cell (World.block_lt_of_cell? w _ hx162_1)).trans hx162_1
                            replace p162 := eq_true p162
                            replace q162 := eq_true q162
                            have hcz21_0 : wr.cell? ⟨gb161, 0, none⟩ = some (.string ((rd_T54 l0 x3_1).f0)) := (blk_cell BK161.out 0).trans rfl
                            have hcz21_1 : wr.cell? ⟨gb161, 1, none⟩ = some (.string ((rd_T54 l0 x3_1).f1)) := (blk_cell BK161.out 1).trans rfl
                            have hfz21_0 := blk_frozen BK161.out 0
                            have hfz21_1 := blk_frozen BK161.out 1
                            go_wp2
                            repeat (go_quiet (fail); try go_wp2)
                            go_roundg k3
                            case measure => have := HK1.out; have := HJ3.out; have := HK3.out; omega
                            case rel => exact ⟨(wrap64 (x5_3 + 1)), (by first | rfl | (simp; done) | (simp [*]; done)), H', ⟨by have := HK1.out; have := HJ3.out; have := HK3.out; omega⟩, ⟨by (with_reducible repeat (first | refine qN ?_ _ | refine qD ?_ | refine qA ?_ _)); exact BK161.out⟩, ⟨by repeat (first | (with_reducible first | exact HB.out | apply pA | apply pN | apply pD | refine pS ?_ GE161.out) | exact HB.out)⟩⟩
                        · rw [if_neg c18] at H
                          exact absurd H (by simp)
                      · rw [if_neg c17] at H
                        exact absurd H (by simp)
                    · rw [if_neg c16] at H
                      have c16b0 : decide (x5_3 < x3_1) = false := decide_eq_false c16
                      clear c16
                      have H' := Aside0.mk H
                      clear H
                      go_wp2
                      repeat (go_quiet (fail); try go_wp2)
                      go_roundg k3
                      case measure => have := HK1.out; have := HJ3.out; have := HK3.out; omega
                      case rel => exact ⟨(wrap64 (x3_1 + 1)), (by first | rfl | (simp; done) | (simp [*]; done)), H', ⟨by have := HK1.out; have := HJ3.out; have := HK3.out; omega⟩, ⟨by repeat (first | (with_reducible first | exact HB.out | apply pA | apply pN | apply pD | refine pS ?_ GE161.out) | exact HB.out)⟩⟩
        · rw [if_neg c3] at H
          exact absurd H (by simp)
      · rw [if_neg c2] at H
        have c2b0 : decide (x3_1 < (l0.length : Int)) = false := decide_eq_false c2
        clear c2
        obtain rfl := Option.some.inj H
        go_wp2
        repeat (go_quiet (fail); try go_wp2)
        go_ret
        exact ⟨by first | rfl | (simp [errW_none, errW_some] <;> rfl) | (simp [*, errW_none, errW_some] <;> rfl), by repeat (first | (with_reducible first | exact HB.out | apply pA | apply pN | apply pD) | exact HB.out)⟩

-- NOT PRINTED: function 3 (portreevelaw15_ChapProves)

-- NOT PRINTED: function 4 (portreevelaw15_ChapEnds)

-- NOT PRINTED: function 5 (portreevelaw15_ChapRead)

-- NOT PRINTED: function 6 (portreevelaw15_ChapOnce)

/-! ### portreevelaw15_few: function 18 -/
mutual
def portreevelaw15_few.l0 : Nat → List (S54) → Int → Option (Bool)
  | 0, _, _ => none
  | k + 1, x0, x3 => if x3 < (x0.length : Int) then (if x3 > 10 then (portreevelaw15_few.j1 k x0 x3 true) else (if 0 ≤ x3 then (if (((rd_T54 x0 x3).f0).size : Int) > 50 then (portreevelaw15_few.j1 k x0 x3 true) else (portreevelaw15_few.j1 k x0 x3 (decide ((((rd_T54 x0 x3).f1).size : Int) > 50)))) else (none))) else (some true)
def portreevelaw15_few.j1 : Nat → List (S54) → Int → Bool → Option (Bool)
  | 0, _, _, _ => none
  | k + 1, x0, x3, x29 => if x29 = true then (some false) else (portreevelaw15_few.l0 k x0 (wrap64 (x3 + 1)))
end
def portreevelaw15_few.f (k : Nat) (l0 : List (S54)) : Option (Bool) := portreevelaw15_few.l0 k l0 0
theorem portreevelaw15_few.mono_l : ∀ k, (∀ y0 y1, LeO (portreevelaw15_few.l0 k y0 y1) (portreevelaw15_few.l0 (k + 1) y0 y1)) ∧ (∀ y0 y1 y2, LeO (portreevelaw15_few.j1 k y0 y1 y2) (portreevelaw15_few.j1 (k + 1) y0 y1 y2))
  | 0 => ⟨fun _ _ r h => by simp [portreevelaw15_few.l0] at h, fun _ _ _ r h => by simp [portreevelaw15_few.j1] at h⟩
  | k + 1 => by
    obtain ⟨ih0, ih1⟩ := portreevelaw15_few.mono_l k
    refine ⟨?_, ?_⟩
    · intro y0 y1
      unfold portreevelaw15_few.l0
      repeat' first
      | (with_reducible exact ih0 _ _)
      | (with_reducible exact ih1 _ _ _)
      | (with_reducible exact LeO.refl _)
      | (with_reducible exact LeO.none _)
      | (with_reducible refine LeO.ite ?_ ?_)
      | (with_reducible refine LeO.bind ?_ (fun _ => ?_))
      | exact ih0 _ _
      | exact ih1 _ _ _
      | exact LeO.none _
      | refine LeO.ite ?_ ?_
      | refine LeO.bind ?_ (fun _ => ?_)
    · intro y0 y1 y2
      unfold portreevelaw15_few.j1
      repeat' first
      | (with_reducible exact ih0 _ _)
      | (with_reducible exact ih1 _ _ _)
      | (with_reducible exact LeO.refl _)
      | (with_reducible exact LeO.none _)
      | (with_reducible refine LeO.ite ?_ ?_)
      | (with_reducible refine LeO.bind ?_ (fun _ => ?_))
      | exact ih0 _ _
      | exact ih1 _ _ _
      | exact LeO.none _
      | refine LeO.ite ?_ ?_
      | refine LeO.bind ?_ (fun _ => ?_)
theorem portreevelaw15_few.mono : ∀ a0 k, LeO (portreevelaw15_few.f k a0) (portreevelaw15_few.f (k + 1) a0) := by
  intro a0 k
  obtain ⟨ih0, ih1⟩ := portreevelaw15_few.mono_l k
  unfold portreevelaw15_few.f
  repeat' first
      | (with_reducible exact ih0 _ _)
      | (with_reducible exact ih1 _ _ _)
      | (with_reducible exact LeO.refl _)
      | (with_reducible exact LeO.none _)
      | (with_reducible refine LeO.ite ?_ ?_)
      | (with_reducible refine LeO.bind ?_ (fun _ => ?_))
      | exact ih0 _ _
      | exact ih1 _ _ _
      | exact LeO.none _
      | refine LeO.ite ?_ ?_
      | refine LeO.bind ?_ (fun _ => ?_)
set_option maxHeartbeats 8000000 in
set_option maxRecDepth 100000 in
theorem portreevelaw15_few.calls (k : Nat) (A0 : Option Addr) (c0 : Nat) (l0 : List (S54)) (r : Bool) (w : World) (hr0 : Kd.C k54 w A0 l0.length l0) (hc0 : l0.length ≤ c0) (h : portreevelaw15_few.f k l0 = some r) :
    Calls Try.prog 18 #[.slice A0 l0.length c0] w fun e w' => e = .returned (.bool r) ∧ Drawn0 w w' := by
  have hu54 := Try.underlying54
  have HR0 := Aside0.mk hr0
  have HC0 := Aside0.mk hc0
  clear hr0 hc0
  have H : (portreevelaw15_few.l0 k l0 0) = some r := h
  clear h
  have H' := Aside0.mk H
  clear H
  go_enter Try.func18, Try.ntmps18
  go_wp2
  go_loopg [3] k (fun kq v3 w' => ∃ (x3_1 : Int), v3 = .int .i64 x3_1 ∧ Aside0 (portreevelaw15_few.l0 kq l0 x3_1 = some r) ∧ Aside0 (kq ≤ k) ∧ Drawn0 w w')
  case atStart => exact ⟨(0), (by first | rfl | (simp; done) | (simp [*]; done)), H', ⟨Nat.le_refl _⟩, by repeat (first | exact Drawn0.refl _ | apply Drawn0.step)⟩
  case round =>
    clear H'
    try clear c1
    obtain ⟨x3_1, rfl, HA, HK1, ⟨m1, rfl⟩⟩ := hrel
    cases gk with
    | zero => exact absurd HA.out (by simp [portreevelaw15_few.l0])
    | succ k1 =>
      have H := HA.out
      clear HA
      simp only [portreevelaw15_few.l0] at H
      by_cases c2 : x3_1 < (l0.length : Int)
      · rw [if_pos c2] at H
        have c2b0 : decide (x3_1 < (l0.length : Int)) = true := decide_eq_true c2
        clear c2
        have HC3 := Aside0.mk H
        clear H
        go_upto_region 4 with (fail)
        go_cut [29] (fun v29 wc => ∃ (kq : Nat) (x29_2 : Bool), v29 = .bool x29_2 ∧ Aside0 (portreevelaw15_few.j1 kq l0 x3_1 x29_2 = some r) ∧ Aside0 (kq ≤ k1) ∧ Drawn0 w wc)
        case first =>
          have H := HC3.out
          clear HC3
          by_cases c4 : x3_1 > 10
          · rw [if_pos c4] at H
            have c4b0 : decide (10 < x3_1) = true := decide_eq_true c4
            clear c4
            (first | rw [c4b0] | (simp only [i64_w, i32_w]; rw [c4b0]) | skip)
            have H' := Aside0.mk H
            clear H
            go_wp2
            go_meet
            case rel => exact ⟨_, (true), (by first | rfl | (simp; done) | (simp [*]; done)), H', ⟨by have := HK1.out; first | omega | exact Nat.le_refl _⟩, by repeat (first | exact Drawn0.refl _ | apply Drawn0.step)⟩
          · rw [if_neg c4] at H
            have c4b0 : decide (10 < x3_1) = false := decide_eq_false c4
            clear c4
            (first | rw [c4b0] | (simp only [i64_w, i32_w]; rw [c4b0]) | skip)
            by_cases c5 : 0 ≤ x3_1
            · rw [if_pos c5] at H
              have c5b0 : decide (0 ≤ x3_1) = true := decide_eq_true c5
              clear c5
              by_cases c6 : (((rd_T54 l0 x3_1).f0).size : Int) > 50
              · rw [if_pos c6] at H
                have c6b0 : decide (50 < (((rd_T54 l0 x3_1).f0).size : Int)) = true := decide_eq_true c6
                have c6b1 : decide (50 < ((rd_T54 l0 x3_1).f0).size) = true := decide_eq_true (by omega)
                clear c6
                have H' := Aside0.mk H
                clear H
                have p173 : 0 ≤ (x3_1 : Int) := of_decide_eq_true (by first | (with_reducible assumption) | assumption)
                have q173 : x3_1 < (l0.length : Int) := of_decide_eq_true (by first | (with_reducible assumption) | assumption)
                obtain ⟨ad173, e173, hx173_0, hx173_1⟩ := at_T54 HR0.out x3_1 p173 q173
                cases e173
                replace p173 := eq_true p173
                replace q173 := eq_true q173
                go_wp2
                go_meet
                case rel => exact ⟨_, (true), (by first | rfl | (simp; done) | (simp [*]; done)), H', ⟨by have := HK1.out; first | omega | exact Nat.le_refl _⟩, by repeat (first | exact Drawn0.refl _ | apply Drawn0.step)⟩
              · rw [if_neg c6] at H
                have c6b0 : decide (50 < (((rd_T54 l0 x3_1).f0).size : Int)) = false := decide_eq_false c6
                have c6b1 : decide (50 < ((rd_T54 l0 x3_1).f0).size) = false := decide_eq_false (by omega)
                clear c6
                have H' := Aside0.mk H
                clear H
                have p173 : 0 ≤ (x3_1 : Int) := of_decide_eq_true (by first | (with_reducible assumption) | assumption)
                have q173 : x3_1 < (l0.length : Int) := of_decide_eq_true (by first | (with_reducible assumption) | assumption)
                obtain ⟨ad173, e173, hx173_0, hx173_1⟩ := at_T54 HR0.out x3_1 p173 q173
                cases e173
                replace p173 := eq_true p173
                replace q173 := eq_true q173
                have p174 : 0 ≤ (x3_1 : Int) := of_decide_eq_true (by first | (with_reducible assumption) | assumption)
                have q174 : x3_1 < (l0.length : Int) := of_decide_eq_true (by first | (with_reducible assumption) | assumption)
                obtain ⟨ad174, e174, hx174_0, hx174_1⟩ := at_T54 HR0.out x3_1 p174 q174
                obtain rfl : ad173 = ad174 := (by injection e174)
                replace p174 := eq_true p174
                replace q174 := eq_true q174
                go_wp2
                go_meet
                case rel => exact ⟨_, (decide ((((rd_T54 l0 x3_1).f1).size : Int) > 50)), (by first | rfl | (simp; done) | (simp [*]; done)), H', ⟨by have := HK1.out; first | omega | exact Nat.le_refl _⟩, by repeat (first | exact Drawn0.refl _ | apply Drawn0.step)⟩
            · rw [if_neg c5] at H
              exact absurd H (by simp)
        case rest =>
          clear HC3
          try clear c1
          try clear p1
          try clear q1
          try clear hx1
          try clear c2
          try clear c2b0
          try clear p2
          try clear c4
          try clear c4b0
          try clear c5
          try clear c5b0
          try clear c6
          try clear c6b0
          try clear c6b1
          try clear hx173_0
          try clear hx173_1
          try clear hx174_0
          try clear hx174_1
          try clear p173
          try clear p174
          try clear q173
          try clear q174
          obtain ⟨kq, x29_2, rfl, HA, HJ2, ⟨mc2, rfl⟩⟩ := hcut
          cases kq with
          | zero => exact absurd HA.out (by simp [portreevelaw15_few.j1])
          | succ kj2 =>
            have H := HA.out
            clear HA
            simp only [portreevelaw15_few.j1] at H
            by_cases c7 : x29_2 = true
            · subst c7
              have H1 : (some false) = some r := by rw [if_pos rfl] at H; exact H
              clear H
              have H := H1
              clear H1
              obtain rfl := Option.some.inj H
              go_wp2
              go_ret
              exact ⟨by first | rfl | (simp; done) | (simp [*]; done), by repeat (first | exact Drawn0.refl _ | apply Drawn0.step)⟩
            · replace c7 := Bool.eq_false_iff.mpr c7
              subst c7
              have H1 : (portreevelaw15_few.l0 kj2 l0 (wrap64 (x3_1 + 1))) = some r := by rw [if_neg (show ¬ (false = true) by decide)] at H; exact H
              clear H
              have H := H1
              clear H1
              have H' := Aside0.mk H
              clear H
              go_wp2
              go_roundg kj2
              case measure => have := HK1.out; have := HJ2.out; omega
              case rel => exact ⟨(wrap64 (x3_1 + 1)), (by first | rfl | (simp; done) | (simp [*]; done)), H', ⟨by have := HK1.out; have := HJ2.out; omega⟩, by repeat (first | exact Drawn0.refl _ | apply Drawn0.step)⟩
      · rw [if_neg c2] at H
        have c2b0 : decide (x3_1 < (l0.length : Int)) = false := decide_eq_false c2
        clear c2
        obtain rfl := Option.some.inj H
        go_wp2
        go_ret
        exact ⟨by first | rfl | (simp; done) | (simp [*]; done), by repeat (first | exact Drawn0.refl _ | apply Drawn0.step)⟩

-- NOT PRINTED: function 7 (portreevelaw15_ChapUsers)

/-! ### portreeveref02_Pad: function 34 -/
def portreeveref02_Pad.l0 : Nat → List Int → Int → Int → Option (List Int)
  | 0, _, _, _ => none
  | k + 1, x3, x5, x6 => if x6 < 8 then (if x3.length < 140737488355328 then (portreeveref02_Pad.l0 k (x3 ++ [(Int.tmod x5 256) % 256]) (IntKind.u64.wrap (Int.tdiv x5 256)) (wrap64 (x6 + 1))) else (none)) else (some x3)
def portreeveref02_Pad.f (k : Nat) (l0 : List Int) : Option (List Int) := (some (([] : List Int) : List Int)).bind fun y175 => (if y175.length + l0.length < 140737488355328 then ((some (y175 ++ l0 : List Int)).bind fun y178 => (if y178.length < 140737488355328 then ((some (y178 ++ [128] : List Int)).bind fun y181 => (if 0 ≤ ((119 - ((l0.length : Int) % 64)) % 64) then (if y181.length + ((119 - ((l0.length : Int) % 64)) % 64 : Int).toNat < 140737488355328 then (portreeveref02_Pad.l0 k (y181 ++ List.replicate ((119 - ((l0.length : Int) % 64)) % 64 : Int).toNat 0) (IntKind.u64.wrap (8 * (IntKind.u64.wrap ((l0.length : Int))))) 0) else (none)) else (none))) else (none))) else (none))
theorem portreeveref02_Pad.mono_l : ∀ k, (∀ y0 y1 y2, LeO (portreeveref02_Pad.l0 k y0 y1 y2) (portreeveref02_Pad.l0 (k + 1) y0 y1 y2))
  | 0 => fun _ _ _ r h => by simp [portreeveref02_Pad.l0] at h
  | k + 1 => by
    have ih0 := portreeveref02_Pad.mono_l k
    · intro y0 y1 y2
      unfold portreeveref02_Pad.l0
      repeat' first
      | (with_reducible exact ih0 _ _ _)
      | (with_reducible exact LeO.refl _)
      | (with_reducible exact LeO.none _)
      | (with_reducible refine LeO.ite ?_ ?_)
      | (with_reducible refine LeO.bind ?_ (fun _ => ?_))
      | exact ih0 _ _ _
      | exact LeO.none _
      | refine LeO.ite ?_ ?_
      | refine LeO.bind ?_ (fun _ => ?_)
theorem portreeveref02_Pad.mono : ∀ a0 k, LeO (portreeveref02_Pad.f k a0) (portreeveref02_Pad.f (k + 1) a0) := by
  intro a0 k
  have ih0 := portreeveref02_Pad.mono_l k
  unfold portreeveref02_Pad.f
  repeat' first
      | (with_reducible exact ih0 _ _ _)
      | (with_reducible exact LeO.refl _)
      | (with_reducible exact LeO.none _)
      | (with_reducible refine LeO.ite ?_ ?_)
      | (with_reducible refine LeO.bind ?_ (fun _ => ?_))
      | exact ih0 _ _ _
      | exact LeO.none _
      | refine LeO.ite ?_ ?_
      | refine LeO.bind ?_ (fun _ => ?_)
set_option maxHeartbeats 8000000 in
set_option maxRecDepth 100000 in
theorem portreeveref02_Pad.calls (k : Nat) (A0 : Option Addr) (c0 : Nat) (l0 : List Int) (r : List Int) (w : World) (hr0 : Kd.C (Kd.int .u8) w A0 l0.length l0) (hc0 : l0.length ≤ c0) (h : portreeveref02_Pad.f k l0 = some r) :
    Calls Try.prog 34 #[.slice A0 l0.length c0] w fun e w' => ∃ v0_ : Value, e = .returned (v0_) ∧ Kd.R (Kd.int .u8) 5 w' w.heap.size (fun _ => True) v0_ r ∧ Below w.heap.size w w' := by
  have HR0 := Aside0.mk hr0
  have HC0 := Aside0.mk hc0
  clear hr0 hc0
  have HB := Aside0.mk (Below.refl w.heap.size w)
  have H : ((some (([] : List Int) : List Int)).bind fun y175 => (if y175.length + l0.length < 140737488355328 then ((some (y175 ++ l0 : List Int)).bind fun y178 => (if y178.length < 140737488355328 then ((some (y178 ++ [128] : List Int)).bind fun y181 => (if 0 ≤ ((119 - ((l0.length : Int) % 64)) % 64) then (if y181.length + ((119 - ((l0.length : Int) % 64)) % 64 : Int).toNat < 140737488355328 then (portreeveref02_Pad.l0 k (y181 ++ List.replicate ((119 - ((l0.length : Int) % 64)) % 64 : Int).toNat 0) (IntKind.u64.wrap (8 * (IntKind.u64.wrap ((l0.length : Int))))) 0) else (none)) else (none))) else (none))) else (none))) = some r := h
  clear h
  obtain ⟨y175, hy175⟩ : ∃ y_ : List Int, y_ = (([] : List Int)) := ⟨_, rfl⟩
  replace H : (if y175.length + l0.length < 140737488355328 then ((some (y175 ++ l0 : List Int)).bind fun y178 => (if y178.length < 140737488355328 then ((some (y178 ++ [128] : List Int)).bind fun y181 => (if 0 ≤ ((119 - ((l0.length : Int) % 64)) % 64) then (if y181.length + ((119 - ((l0.length : Int) % 64)) % 64 : Int).toNat < 140737488355328 then (portreeveref02_Pad.l0 k (y181 ++ List.replicate ((119 - ((l0.length : Int) % 64)) % 64 : Int).toNat 0) (IntKind.u64.wrap (8 * (IntKind.u64.wrap ((l0.length : Int))))) 0) else (none)) else (none))) else (none))) else (none)) = some r := by first | (rw [hy175]; with_reducible exact H) | (have H2_ := (Option.bind_some _ _).symm.trans H; rw [hy175]; with_reducible exact H2_) | (have H2_ := (Option.bind_some _ _).symm.trans H; with_reducible exact H2_) | with_reducible exact H | (rw [hy175]; exact H) | exact H
  have Ny175 := Aside0.mk hy175
  clear hy175
  by_cases c2 : y175.length + l0.length < 140737488355328
  · rw [if_pos c2] at H
    have LMc2 := Aside0.mk c2
    clear c2
    obtain ⟨y178, hy178⟩ : ∃ y_ : List Int, y_ = (y175 ++ l0) := ⟨_, rfl⟩
    replace H : (if y178.length < 140737488355328 then ((some (y178 ++ [128] : List Int)).bind fun y181 => (if 0 ≤ ((119 - ((l0.length : Int) % 64)) % 64) then (if y181.length + ((119 - ((l0.length : Int) % 64)) % 64 : Int).toNat < 140737488355328 then (portreeveref02_Pad.l0 k (y181 ++ List.replicate ((119 - ((l0.length : Int) % 64)) % 64 : Int).toNat 0) (IntKind.u64.wrap (8 * (IntKind.u64.wrap ((l0.length : Int))))) 0) else (none)) else (none))) else (none)) = some r := by first | (rw [hy178]; with_reducible exact H) | (have H2_ := (Option.bind_some _ _).symm.trans H; rw [hy178]; with_reducible exact H2_) | (have H2_ := (Option.bind_some _ _).symm.trans H; with_reducible exact H2_) | with_reducible exact H | (rw [hy178]; exact H) | exact H
    have Ny178 := Aside0.mk hy178
    clear hy178
    by_cases c3 : y178.length < 140737488355328
    · rw [if_pos c3] at H
      have LMc3 := Aside0.mk c3
      clear c3
      obtain ⟨y181, hy181⟩ : ∃ y_ : List Int, y_ = (y178 ++ [128]) := ⟨_, rfl⟩
      replace H : (if 0 ≤ ((119 - ((l0.length : Int) % 64)) % 64) then (if y181.length + ((119 - ((l0.length : Int) % 64)) % 64 : Int).toNat < 140737488355328 then (portreeveref02_Pad.l0 k (y181 ++ List.replicate ((119 - ((l0.length : Int) % 64)) % 64 : Int).toNat 0) (IntKind.u64.wrap (8 * (IntKind.u64.wrap ((l0.length : Int))))) 0) else (none)) else (none)) = some r := by first | (rw [hy181]; with_reducible exact H) | (have H2_ := (Option.bind_some _ _).symm.trans H; rw [hy181]; with_reducible exact H2_) | (have H2_ := (Option.bind_some _ _).symm.trans H; with_reducible exact H2_) | with_reducible exact H | (rw [hy181]; exact H) | exact H
      have Ny181 := Aside0.mk hy181
      clear hy181
      obtain ⟨ji4, hji4⟩ : ∃ j_ : Int, ((119 - ((l0.length : Int) % 64)) % 64) = j_ := ⟨_, rfl⟩
      replace H : (if 0 ≤ (ji4) then (if y181.length + (ji4 : Int).toNat < 140737488355328 then (portreeveref02_Pad.l0 k (y181 ++ List.replicate (ji4 : Int).toNat 0) (IntKind.u64.wrap (8 * (IntKind.u64.wrap ((l0.length : Int))))) 0) else (none)) else (none)) = some r := by first | (rw [hji4] at H; exact H) | (simp only [hji4] at H ⊢; exact H)
      by_cases c5 : 0 ≤ (ji4)
      · rw [if_pos c5] at H
        have c5b0 := eq_true c5
        have c5b1 : decide (0 ≤ (ji4)) = true := decide_eq_true c5
        clear c5
        by_cases c6 : y181.length + (ji4 : Int).toNat < 140737488355328
        · rw [if_pos c6] at H
          have LMc6 := Aside0.mk c6
          clear c6
          obtain ⟨y184, hy184⟩ : ∃ y_ : List Int, y_ = (y181 ++ List.replicate (ji4 : Int).toNat 0) := ⟨_, rfl⟩
          replace H : (portreeveref02_Pad.l0 k y184 (IntKind.u64.wrap (8 * (IntKind.u64.wrap ((l0.length : Int))))) 0) = some r := by first | (rw [hy184]; with_reducible exact H) | (have H2_ := (Option.bind_some _ _).symm.trans H; rw [hy184]; with_reducible exact H2_) | (have H2_ := (Option.bind_some _ _).symm.trans H; with_reducible exact H2_) | with_reducible exact H | (rw [hy184]; exact H) | exact H
          have Ny184 := Aside0.mk hy184
          clear hy184
          have H' := Aside0.mk H
          clear H
          go_enter Try.func34, Try.ntmps34
          go_wp2_with (first | ((with_reducible refine gate_dst (N := 7) rfl ?_); refine Kd.R_lit (Kd.int .u8) _ 5 ?hg (N := 7) ?hd (xs := ([] : List Int)) (inner := []) (ok := fun _ => True) (okp := fun _ => True) ?hr ?hp (fun _ hk => hk) trivial (Below.refl _ _) (Nat.le_refl _) (by simp) ?_; (case hd => rfl); (case hg => rfl); (case hr => first | (go_simp; done) | (go_simp; rfl)); (case hp => exact (Reps.none _ _)); intro v176 w7 ho8 hb hg_ hnew_; clear hg_ hnew_; (first | rw [← Ny175.out] at ho8 | (simp only [Int.reduceToNat] at ho8; rw [← Ny175.out] at ho8)); have n0_ := Aside0.mk (Kd.R_lower ho8 (below_size (by repeat (first | (with_reducible first | exact HB.out | apply pA | apply pN | apply pD) | exact HB.out)))); have n1_ := Aside0.mk (below_step (by repeat (first | (with_reducible first | exact HB.out | apply pA | apply pN | apply pD) | exact HB.out)) hb); clear HB; have HO177 := n0_; have HB := n1_; clear n0_ n1_; clear hb ho8) | ((with_reducible refine gate_builtin (b := .append) (xs := #[.tmp 7, .tmp 8]) rfl ?_); at_builtin; refine Kd.R_append_rows (Kd.int .u8) (w0 := w) w.heap.size rfl (.tmp 7) (.tmp 8) 26 5 (.int .u8 0) 1 rfl Try.underlying26 info5 rfl (by decide) (by omega) v176 y175 l0 _ _ _ (fun _ => True) (fun _ => False) rfl rfl ?aO ?aR (fun _ _ h => h) (fun _ h => h.elim) ?aF ?aB ?aS ?aL ?_; (case aR => repeat (first | exact (Kd.C_below HR0.out HB.out) | (with_reducible refine Kd.C_alloc ?_ _) | (with_reducible refine Kd.C_drewN ?_ _) | (with_reducible refine Kd.C_drew ?_))); (case aB => exact (by repeat (first | (with_reducible first | exact HB.out | apply pA | apply pN | apply pD) | exact HB.out))); (case aF => exact (fun _ _ => trivial)); (case aO => exact (by (with_reducible repeat (first | apply Kd.R_alloc | apply Kd.R_drewN | apply Kd.R_drew)); exact HO177.out)); (case aS => exact (below_size (by repeat (first | (with_reducible first | exact HB.out | apply pA | apply pN | apply pD) | exact HB.out)))); (case aL => have := LMc2.out; omega); intro v179 w9 ho hb hg hat; rw [← Ny178.out] at ho; have n0_ := Aside0.mk (hb); have n1_ := Aside0.mk (ho); clear HB; clear HO177; have HB := n0_; have HO180 := n1_; clear n0_ n1_; clear ho hb hg hat) | ((with_reducible refine gate_builtin (b := .append) (xs := #[.tmp 10, .tmp 11]) rfl ?_); at_builtin; refine Kd.R_append (Kd.int .u8) (w0 := w) w.heap.size rfl (.tmp 10) (.tmp 11) 26 5 (.int .u8 0) 1 rfl Try.underlying26 info5 rfl (by decide) (by omega) v179 y178 128 [.int .u8 128] (fun _ => True) (fun _ => False) rfl rfl ?aP (fun _ hk => hk.elim) ?aF ?aO ?aB ?aS ?aL ?_; (case aP => exact rfl); (case aB => exact (by repeat (first | (with_reducible first | exact HB.out | apply pA | apply pN | apply pD) | exact HB.out))); (case aF => exact (fun _ _ => trivial)); (case aO => exact (by (with_reducible repeat (first | apply Kd.R_alloc | apply Kd.R_drewN | apply Kd.R_drew)); exact HO180.out)); (case aS => exact (below_size (by repeat (first | (with_reducible first | exact HB.out | apply pA | apply pN | apply pD) | exact HB.out)))); (case aL => have := LMc3.out; omega); intro v182 w10 ho hb hg hat; rw [← Ny181.out] at ho; have n0_ := Aside0.mk (hb); have n1_ := Aside0.mk (ho); clear HB; clear HO180; have HB := n0_; have HO183 := n1_; clear n0_ n1_; clear ho hb hg hat) | (at_builtin; refine Kd.R_append_zeros (Kd.int .u8) (w0 := w) w.heap.size rfl (.tmp 18) (.tmp 19) 26 3 5 (.int .u8 0) 1 rfl Try.underlying26 Try.underlying3 info5 rfl (by decide) (by omega) v182 y181 0 (ji4 : Int) (fun _ => True) rfl (by first | rfl | (rw [← hji4]; rfl)) rfl ?aF ?aO (of_decide_eq_true (by first | (with_reducible assumption) | assumption)) ?aB ?aS ?aL ?_; (case aB => exact (by repeat (first | (with_reducible first | exact HB.out | apply pA | apply pN | apply pD) | exact HB.out))); (case aF => exact (fun _ _ => trivial)); (case aO => exact (by (with_reducible repeat (first | apply Kd.R_alloc | apply Kd.R_drewN | apply Kd.R_drew)); exact HO183.out)); (case aS => exact (below_size (by repeat (first | (with_reducible first | exact HB.out | apply pA | apply pN | apply pD) | exact HB.out)))); (case aL => have := LMc6.out; omega); intro v185 w11 ho hb hg hat; (try simp only [Int.reduceToNat] at ho); rw [← Ny184.out] at ho; have n0_ := Aside0.mk (hb); have n1_ := Aside0.mk (ho); clear HB; clear HO183; have HB := n0_; have HO186 := n1_; clear n0_ n1_; clear ho hb hg hat))
          go_loopg [3, 5, 6] k (fun kq v3 v5 v6 w' => ∃ (x3_1 : List Int) (x5_1 : Int) (x6_1 : Int), v5 = .int .u64 x5_1 ∧ v6 = .int .i64 x6_1 ∧ Aside0 (portreeveref02_Pad.l0 kq x3_1 x5_1 x6_1 = some r) ∧ Aside0 (kq ≤ k) ∧ Aside0 (Kd.R (Kd.int .u8) 5 w' w.heap.size (fun _ => True) v3 x3_1) ∧ Aside0 (Below w.heap.size w w'))
          case atStart => exact ⟨(y184), (IntKind.u64.wrap (8 * (IntKind.u64.wrap ((l0.length : Int))))), (0), (by first | rfl | (simp; done) | (simp [*]; done)), (by first | rfl | (simp; done) | (simp [*]; done)), H', ⟨Nat.le_refl _⟩, ⟨by (with_reducible repeat (first | apply Kd.R_alloc | apply Kd.R_drewN | apply Kd.R_drew)); exact HO186.out⟩, ⟨by repeat (first | (with_reducible first | exact HB.out | apply pA | apply pN | apply pD) | exact HB.out)⟩⟩
          case round =>
            clear H'
            try clear c2
            try clear p2
            try clear c3
            try clear c5
            try clear c5b0
            try clear c5b1
            try clear c6
            obtain ⟨x3_1, x5_1, x6_1, rfl, rfl, HA, HK1, HO_3, HB⟩ := hrel
            cases gk with
            | zero => exact absurd HA.out (by simp [portreeveref02_Pad.l0])
            | succ k1 =>
              have H := HA.out
              clear HA
              simp only [portreeveref02_Pad.l0] at H
              by_cases c12 : x6_1 < 8
              · rw [if_pos c12] at H
                have c12b0 : decide (x6_1 < 8) = true := decide_eq_true c12
                clear c12
                by_cases c13 : x3_1.length < 140737488355328
                · rw [if_pos c13] at H
                  have LMc13 := Aside0.mk c13
                  clear c13
                  obtain ⟨y187, hy187⟩ : ∃ y_ : List Int, y_ = (x3_1 ++ [(Int.tmod x5_1 256) % 256]) := ⟨_, rfl⟩
                  replace H : (portreeveref02_Pad.l0 k1 y187 (IntKind.u64.wrap (Int.tdiv x5_1 256)) (wrap64 (x6_1 + 1))) = some r := by first | (rw [hy187]; with_reducible exact H) | (have H2_ := (Option.bind_some _ _).symm.trans H; rw [hy187]; with_reducible exact H2_) | (have H2_ := (Option.bind_some _ _).symm.trans H; with_reducible exact H2_) | with_reducible exact H | (rw [hy187]; exact H) | exact H
                  have Ny187 := Aside0.mk hy187
                  clear hy187
                  have H' := Aside0.mk H
                  clear H
                  go_wp2_with (first | ((with_reducible refine gate_builtin (b := .append) (xs := #[.tmp 29, .tmp 33]) rfl ?_); at_builtin; refine Kd.R_append (Kd.int .u8) (w0 := w) w.heap.size rfl (.tmp 29) (.tmp 33) 26 5 (.int .u8 0) 1 rfl Try.underlying26 info5 rfl (by decide) (by omega) u3 x3_1 ((Int.tmod x5_1 256) % 256) [.int .u8 ((Int.tmod x5_1 256) % 256)] (fun _ => True) (fun _ => False) rfl rfl ?aP (fun _ hk => hk.elim) ?aF ?aO ?aB ?aS ?aL ?_; (case aP => exact rfl); (case aB => exact (by repeat (first | (with_reducible first | exact HB.out | apply pA | apply pN | apply pD) | exact HB.out))); (case aF => exact (fun _ _ => trivial)); (case aO => exact (by (with_reducible repeat (first | apply Kd.R_alloc | apply Kd.R_drewN | apply Kd.R_drew)); exact HO_3.out)); (case aS => exact (below_size (by repeat (first | (with_reducible first | exact HB.out | apply pA | apply pN | apply pD) | exact HB.out)))); (case aL => have := LMc13.out; omega); intro v188 w14 ho hb hg hat; rw [← Ny187.out] at ho; have n0_ := Aside0.mk (hb); have n1_ := Aside0.mk (ho); clear HB; clear HO_3; have HB := n0_; have HO189 := n1_; clear n0_ n1_; clear ho hb hg hat))
                  go_roundg k1
                  case measure => have := HK1.out; omega
                  case rel => exact ⟨(y187), (IntKind.u64.wrap (Int.tdiv x5_1 256)), (wrap64 (x6_1 + 1)), (by first | rfl | (simp; done) | (simp [*]; done)), (by first | rfl | (simp; done) | (simp [*]; done)), H', ⟨by have := HK1.out; omega⟩, ⟨by (with_reducible repeat (first | apply Kd.R_alloc | apply Kd.R_drewN | apply Kd.R_drew)); exact HO189.out⟩, ⟨by repeat (first | (with_reducible first | exact HB.out | apply pA | apply pN | apply pD) | exact HB.out)⟩⟩
                · rw [if_neg c13] at H
                  exact absurd H (by simp)
              · rw [if_neg c12] at H
                have c12b0 : decide (x6_1 < 8) = false := decide_eq_false c12
                clear c12
                obtain rfl := Option.some.inj H
                go_wp2
                go_ret
                exact ⟨_, by first | rfl | (simp [errW_none, errW_some] <;> rfl) | (simp only [← hji4]; first | rfl | (simp [errW_none, errW_some] <;> rfl)) | (simp [*, errW_none, errW_some] <;> rfl), by (with_reducible repeat (first | apply Kd.R_alloc | apply Kd.R_drewN | apply Kd.R_drew)); exact HO_3.out, by repeat (first | (with_reducible first | exact HB.out | apply pA | apply pN | apply pD) | exact HB.out)⟩
        · rw [if_neg c6] at H
          exact absurd H (by simp)
      · rw [if_neg c5] at H
        exact absurd H (by simp)
    · rw [if_neg c3] at H
      exact absurd H (by simp)
  · rw [if_neg c2] at H
    exact absurd H (by simp)

/-! ### portreeveref02_turn: function 44 -/
def portreeveref02_turn.l0 : Nat → Int → Int → Int → Option (Int)
  | 0, _, _, _ => none
  | k + 1, x0, x1, x5 => if x5 < x1 then (portreeveref02_turn.l0 k ((((x0 * 2) % 4294967296) + ((Int.tdiv x0 2147483648) % 4294967296)) % 4294967296) x1 (wrap64 (x5 + 1))) else (some x0)
def portreeveref02_turn.f (k : Nat) (a0 : Int) (a1 : Int) : Option (Int) := portreeveref02_turn.l0 k a0 a1 0
theorem portreeveref02_turn.mono_l : ∀ k, (∀ y0 y1 y2, LeO (portreeveref02_turn.l0 k y0 y1 y2) (portreeveref02_turn.l0 (k + 1) y0 y1 y2))
  | 0 => fun _ _ _ r h => by simp [portreeveref02_turn.l0] at h
  | k + 1 => by
    have ih0 := portreeveref02_turn.mono_l k
    · intro y0 y1 y2
      unfold portreeveref02_turn.l0
      repeat' first
      | (with_reducible exact ih0 _ _ _)
      | (with_reducible exact LeO.refl _)
      | (with_reducible exact LeO.none _)
      | (with_reducible refine LeO.ite ?_ ?_)
      | (with_reducible refine LeO.bind ?_ (fun _ => ?_))
      | exact ih0 _ _ _
      | exact LeO.none _
      | refine LeO.ite ?_ ?_
      | refine LeO.bind ?_ (fun _ => ?_)
theorem portreeveref02_turn.mono : ∀ a0 a1 k, LeO (portreeveref02_turn.f k a0 a1) (portreeveref02_turn.f (k + 1) a0 a1) := by
  intro a0 a1 k
  have ih0 := portreeveref02_turn.mono_l k
  unfold portreeveref02_turn.f
  repeat' first
      | (with_reducible exact ih0 _ _ _)
      | (with_reducible exact LeO.refl _)
      | (with_reducible exact LeO.none _)
      | (with_reducible refine LeO.ite ?_ ?_)
      | (with_reducible refine LeO.bind ?_ (fun _ => ?_))
      | exact ih0 _ _ _
      | exact LeO.none _
      | refine LeO.ite ?_ ?_
      | refine LeO.bind ?_ (fun _ => ?_)
set_option maxHeartbeats 8000000 in
set_option maxRecDepth 100000 in
theorem portreeveref02_turn.calls (k : Nat) (a0 : Int) (a1 : Int) (r : Int) (w : World) (h : portreeveref02_turn.f k a0 a1 = some r) :
    Calls Try.prog 44 #[.int .u32 a0, .int .i64 a1] w fun e w' => e = .returned (.int .u32 r) ∧ Drawn0 w w' := by
  have H : (portreeveref02_turn.l0 k a0 a1 0) = some r := h
  clear h
  have H' := Aside0.mk H
  clear H
  go_enter Try.func44, Try.ntmps44
  go_wp2
  go_loopg [0, 5] k (fun kq v0 v5 w' => ∃ (x0_1 : Int) (x5_1 : Int), v0 = .int .u32 x0_1 ∧ v5 = .int .i64 x5_1 ∧ Aside0 (portreeveref02_turn.l0 kq x0_1 a1 x5_1 = some r) ∧ Aside0 (kq ≤ k) ∧ Drawn0 w w')
  case atStart => exact ⟨(a0), (0), (by first | rfl | (simp; done) | (simp [*]; done)), (by first | rfl | (simp; done) | (simp [*]; done)), H', ⟨Nat.le_refl _⟩, by repeat (first | exact Drawn0.refl _ | apply Drawn0.step)⟩
  case round =>
    clear H'
    try clear p2
    obtain ⟨x0_1, x5_1, rfl, rfl, HA, HK1, ⟨m1, rfl⟩⟩ := hrel
    cases gk with
    | zero => exact absurd HA.out (by simp [portreeveref02_turn.l0])
    | succ k1 =>
      have H := HA.out
      clear HA
      simp only [portreeveref02_turn.l0] at H
      by_cases c3 : x5_1 < a1
      · rw [if_pos c3] at H
        have c3b0 : decide (x5_1 < a1) = true := decide_eq_true c3
        clear c3
        have H' := Aside0.mk H
        clear H
        go_wp2
        go_roundg k1
        case measure => have := HK1.out; omega
        case rel => exact ⟨((((x0_1 * 2) % 4294967296) + ((Int.tdiv x0_1 2147483648) % 4294967296)) % 4294967296), (wrap64 (x5_1 + 1)), (by first | rfl | (simp; done) | (simp [*]; done)), (by first | rfl | (simp; done) | (simp [*]; done)), H', ⟨by have := HK1.out; omega⟩, by repeat (first | exact Drawn0.refl _ | apply Drawn0.step)⟩
      · rw [if_neg c3] at H
        have c3b0 : decide (x5_1 < a1) = false := decide_eq_false c3
        clear c3
        obtain rfl := Option.some.inj H
        go_wp2
        go_ret
        exact ⟨by first | rfl | (simp; done) | (simp [*]; done), by repeat (first | exact Drawn0.refl _ | apply Drawn0.step)⟩

/-! ### portreeveref02_k: function 45 -/
def portreeveref02_k.f  : Option (List Int) := some (([3614090360, 3905402710, 606105819, 3250441966, 4118548399, 1200080426, 2821735955, 4249261313, 1770035416, 2336552879, 4294925233, 2304563134, 1804603682, 4254626195, 2792965006, 1236535329, 4129170786, 3225465664, 643717713, 3921069994, 3593408605, 38016083, 3634488961, 3889429448, 568446438, 3275163606, 4107603335, 1163531501, 2850285829, 4243563512, 1735328473, 2368359562, 4294588738, 2272392833, 1839030562, 4259657740, 2763975236, 1272893353, 4139469664, 3200236656, 681279174, 3936430074, 3572445317, 76029189, 3654602809, 3873151461, 530742520, 3299628645, 4096336452, 1126891415, 2878612391, 4237533241, 1700485571, 2399980690, 4293915773, 2240044497, 1873313359, 4264355552, 2734768916, 1309151649, 4149444226, 3174756917, 718787259, 3951481745] : List Int))
set_option maxHeartbeats 8000000 in
set_option maxRecDepth 100000 in
theorem portreeveref02_k.calls  (r : List Int) (w : World) (h : portreeveref02_k.f  = some r) :
    Calls Try.prog 45 #[] w fun e w' => ∃ v0_ : Value, e = .returned (v0_) ∧ Kd.R (Kd.int .u32) 63 w' w.heap.size (fun _ => True) v0_ r ∧ Below w.heap.size w w' := by
  have HB := Aside0.mk (Below.refl w.heap.size w)
  have H : (some (([3614090360, 3905402710, 606105819, 3250441966, 4118548399, 1200080426, 2821735955, 4249261313, 1770035416, 2336552879, 4294925233, 2304563134, 1804603682, 4254626195, 2792965006, 1236535329, 4129170786, 3225465664, 643717713, 3921069994, 3593408605, 38016083, 3634488961, 3889429448, 568446438, 3275163606, 4107603335, 1163531501, 2850285829, 4243563512, 1735328473, 2368359562, 4294588738, 2272392833, 1839030562, 4259657740, 2763975236, 1272893353, 4139469664, 3200236656, 681279174, 3936430074, 3572445317, 76029189, 3654602809, 3873151461, 530742520, 3299628645, 4096336452, 1126891415, 2878612391, 4237533241, 1700485571, 2399980690, 4293915773, 2240044497, 1873313359, 4264355552, 2734768916, 1309151649, 4149444226, 3174756917, 718787259, 3951481745] : List Int))) = some r := h
  clear h
  obtain ⟨y190, hy190⟩ : ∃ y_ : List Int, y_ = (([3614090360, 3905402710, 606105819, 3250441966, 4118548399, 1200080426, 2821735955, 4249261313, 1770035416, 2336552879, 4294925233, 2304563134, 1804603682, 4254626195, 2792965006, 1236535329, 4129170786, 3225465664, 643717713, 3921069994, 3593408605, 38016083, 3634488961, 3889429448, 568446438, 3275163606, 4107603335, 1163531501, 2850285829, 4243563512, 1735328473, 2368359562, 4294588738, 2272392833, 1839030562, 4259657740, 2763975236, 1272893353, 4139469664, 3200236656, 681279174, 3936430074, 3572445317, 76029189, 3654602809, 3873151461, 530742520, 3299628645, 4096336452, 1126891415, 2878612391, 4237533241, 1700485571, 2399980690, 4293915773, 2240044497, 1873313359, 4264355552, 2734768916, 1309151649, 4149444226, 3174756917, 718787259, 3951481745] : List Int)) := ⟨_, rfl⟩
  replace H : (some y190) = some r := by first | (rw [hy190]; with_reducible exact H) | (have H2_ := (Option.bind_some _ _).symm.trans H; rw [hy190]; with_reducible exact H2_) | (have H2_ := (Option.bind_some _ _).symm.trans H; with_reducible exact H2_) | with_reducible exact H | (rw [hy190]; exact H) | exact H
  have Ny190 := Aside0.mk hy190
  clear hy190
  obtain rfl := Option.some.inj H
  go_enter Try.func45, Try.ntmps45
  go_wp2_with (first | ((with_reducible refine gate_dst (N := 1) rfl ?_); refine Kd.R_lit (Kd.int .u32) _ 63 ?hg (N := 1) ?hd (xs := ([3614090360, 3905402710, 606105819, 3250441966, 4118548399, 1200080426, 2821735955, 4249261313, 1770035416, 2336552879, 4294925233, 2304563134, 1804603682, 4254626195, 2792965006, 1236535329, 4129170786, 3225465664, 643717713, 3921069994, 3593408605, 38016083, 3634488961, 3889429448, 568446438, 3275163606, 4107603335, 1163531501, 2850285829, 4243563512, 1735328473, 2368359562, 4294588738, 2272392833, 1839030562, 4259657740, 2763975236, 1272893353, 4139469664, 3200236656, 681279174, 3936430074, 3572445317, 76029189, 3654602809, 3873151461, 530742520, 3299628645, 4096336452, 1126891415, 2878612391, 4237533241, 1700485571, 2399980690, 4293915773, 2240044497, 1873313359, 4264355552, 2734768916, 1309151649, 4149444226, 3174756917, 718787259, 3951481745] : List Int)) (inner := [.int .u32 3614090360, .int .u32 3905402710, .int .u32 606105819, .int .u32 3250441966, .int .u32 4118548399, .int .u32 1200080426, .int .u32 2821735955, .int .u32 4249261313, .int .u32 1770035416, .int .u32 2336552879, .int .u32 4294925233, .int .u32 2304563134, .int .u32 1804603682, .int .u32 4254626195, .int .u32 2792965006, .int .u32 1236535329, .int .u32 4129170786, .int .u32 3225465664, .int .u32 643717713, .int .u32 3921069994, .int .u32 3593408605, .int .u32 38016083, .int .u32 3634488961, .int .u32 3889429448, .int .u32 568446438, .int .u32 3275163606, .int .u32 4107603335, .int .u32 1163531501, .int .u32 2850285829, .int .u32 4243563512, .int .u32 1735328473, .int .u32 2368359562, .int .u32 4294588738, .int .u32 2272392833, .int .u32 1839030562, .int .u32 4259657740, .int .u32 2763975236, .int .u32 1272893353, .int .u32 4139469664, .int .u32 3200236656, .int .u32 681279174, .int .u32 3936430074, .int .u32 3572445317, .int .u32 76029189, .int .u32 3654602809, .int .u32 3873151461, .int .u32 530742520, .int .u32 3299628645, .int .u32 4096336452, .int .u32 1126891415, .int .u32 2878612391, .int .u32 4237533241, .int .u32 1700485571, .int .u32 2399980690, .int .u32 4293915773, .int .u32 2240044497, .int .u32 1873313359, .int .u32 4264355552, .int .u32 2734768916, .int .u32 1309151649, .int .u32 4149444226, .int .u32 3174756917, .int .u32 718787259, .int .u32 3951481745]) (ok := fun _ => True) (okp := fun _ => True) ?hr ?hp (fun _ hk => hk) trivial (Below.refl _ _) (Nat.le_refl _) (by simp) ?_; (case hd => rfl); (case hg => rfl); (case hr => first | (go_simp; done) | (go_simp; rfl)); (case hp => exact (Reps.one (show Kd.M (Kd.int .u32) _ _ _ 3614090360 [.int .u32 3614090360] from rfl) (Reps.one (show Kd.M (Kd.int .u32) _ _ _ 3905402710 [.int .u32 3905402710] from rfl) (Reps.one (show Kd.M (Kd.int .u32) _ _ _ 606105819 [.int .u32 606105819] from rfl) (Reps.one (show Kd.M (Kd.int .u32) _ _ _ 3250441966 [.int .u32 3250441966] from rfl) (Reps.one (show Kd.M (Kd.int .u32) _ _ _ 4118548399 [.int .u32 4118548399] from rfl) (Reps.one (show Kd.M (Kd.int .u32) _ _ _ 1200080426 [.int .u32 1200080426] from rfl) (Reps.one (show Kd.M (Kd.int .u32) _ _ _ 2821735955 [.int .u32 2821735955] from rfl) (Reps.one (show Kd.M (Kd.int .u32) _ _ _ 4249261313 [.int .u32 4249261313] from rfl) (Reps.one (show Kd.M (Kd.int .u32) _ _ _ 1770035416 [.int .u32 1770035416] from rfl) (Reps.one (show Kd.M (Kd.int .u32) _ _ _ 2336552879 [.int .u32 2336552879] from rfl) (Reps.one (show Kd.M (Kd.int .u32) _ _ _ 4294925233 [.int .u32 4294925233] from rfl) (Reps.one (show Kd.M (Kd.int .u32) _ _ _ 2304563134 [.int .u32 2304563134] from rfl) (Reps.one (show Kd.M (Kd.int .u32) _ _ _ 1804603682 [.int .u32 1804603682] from rfl) (Reps.one (show Kd.M (Kd.int .u32) _ _ _ 4254626195 [.int .u32 4254626195] from rfl) (Reps.one (show Kd.M (Kd.int .u32) _ _ _ 2792965006 [.int .u32 2792965006] from rfl) (Reps.one (show Kd.M (Kd.int .u32) _ _ _ 1236535329 [.int .u32 1236535329] from rfl) (Reps.one (show Kd.M (Kd.int .u32) _ _ _ 4129170786 [.int .u32 4129170786] from rfl) (Reps.one (show Kd.M (Kd.int .u32) _ _ _ 3225465664 [.int .u32 3225465664] from rfl) (Reps.one (show Kd.M (Kd.int .u32) _ _ _ 643717713 [.int .u32 643717713] from rfl) (Reps.one (show Kd.M (Kd.int .u32) _ _ _ 3921069994 [.int .u32 3921069994] from rfl) (Reps.one (show Kd.M (Kd.int .u32) _ _ _ 3593408605 [.int .u32 3593408605] from rfl) (Reps.one (show Kd.M (Kd.int .u32) _ _ _ 38016083 [.int .u32 38016083] from rfl) (Reps.one (show Kd.M (Kd.int .u32) _ _ _ 3634488961 [.int .u32 3634488961] from rfl) (Reps.one (show Kd.M (Kd.int .u32) _ _ _ 3889429448 [.int .u32 3889429448] from rfl) (Reps.one (show Kd.M (Kd.int .u32) _ _ _ 568446438 [.int .u32 568446438] from rfl) (Reps.one (show Kd.M (Kd.int .u32) _ _ _ 3275163606 [.int .u32 3275163606] from rfl) (Reps.one (show Kd.M (Kd.int .u32) _ _ _ 4107603335 [.int .u32 4107603335] from rfl) (Reps.one (show Kd.M (Kd.int .u32) _ _ _ 1163531501 [.int .u32 1163531501] from rfl) (Reps.one (show Kd.M (Kd.int .u32) _ _ _ 2850285829 [.int .u32 2850285829] from rfl) (Reps.one (show Kd.M (Kd.int .u32) _ _ _ 4243563512 [.int .u32 4243563512] from rfl) (Reps.one (show Kd.M (Kd.int .u32) _ _ _ 1735328473 [.int .u32 1735328473] from rfl) (Reps.one (show Kd.M (Kd.int .u32) _ _ _ 2368359562 [.int .u32 2368359562] from rfl) (Reps.one (show Kd.M (Kd.int .u32) _ _ _ 4294588738 [.int .u32 4294588738] from rfl) (Reps.one (show Kd.M (Kd.int .u32) _ _ _ 2272392833 [.int .u32 2272392833] from rfl) (Reps.one (show Kd.M (Kd.int .u32) _ _ _ 1839030562 [.int .u32 1839030562] from rfl) (Reps.one (show Kd.M (Kd.int .u32) _ _ _ 4259657740 [.int .u32 4259657740] from rfl) (Reps.one (show Kd.M (Kd.int .u32) _ _ _ 2763975236 [.int .u32 2763975236] from rfl) (Reps.one (show Kd.M (Kd.int .u32) _ _ _ 1272893353 [.int .u32 1272893353] from rfl) (Reps.one (show Kd.M (Kd.int .u32) _ _ _ 4139469664 [.int .u32 4139469664] from rfl) (Reps.one (show Kd.M (Kd.int .u32) _ _ _ 3200236656 [.int .u32 3200236656] from rfl) (Reps.one (show Kd.M (Kd.int .u32) _ _ _ 681279174 [.int .u32 681279174] from rfl) (Reps.one (show Kd.M (Kd.int .u32) _ _ _ 3936430074 [.int .u32 3936430074] from rfl) (Reps.one (show Kd.M (Kd.int .u32) _ _ _ 3572445317 [.int .u32 3572445317] from rfl) (Reps.one (show Kd.M (Kd.int .u32) _ _ _ 76029189 [.int .u32 76029189] from rfl) (Reps.one (show Kd.M (Kd.int .u32) _ _ _ 3654602809 [.int .u32 3654602809] from rfl) (Reps.one (show Kd.M (Kd.int .u32) _ _ _ 3873151461 [.int .u32 3873151461] from rfl) (Reps.one (show Kd.M (Kd.int .u32) _ _ _ 530742520 [.int .u32 530742520] from rfl) (Reps.one (show Kd.M (Kd.int .u32) _ _ _ 3299628645 [.int .u32 3299628645] from rfl) (Reps.one (show Kd.M (Kd.int .u32) _ _ _ 4096336452 [.int .u32 4096336452] from rfl) (Reps.one (show Kd.M (Kd.int .u32) _ _ _ 1126891415 [.int .u32 1126891415] from rfl) (Reps.one (show Kd.M (Kd.int .u32) _ _ _ 2878612391 [.int .u32 2878612391] from rfl) (Reps.one (show Kd.M (Kd.int .u32) _ _ _ 4237533241 [.int .u32 4237533241] from rfl) (Reps.one (show Kd.M (Kd.int .u32) _ _ _ 1700485571 [.int .u32 1700485571] from rfl) (Reps.one (show Kd.M (Kd.int .u32) _ _ _ 2399980690 [.int .u32 2399980690] from rfl) (Reps.one (show Kd.M (Kd.int .u32) _ _ _ 4293915773 [.int .u32 4293915773] from rfl) (Reps.one (show Kd.M (Kd.int .u32) _ _ _ 2240044497 [.int .u32 2240044497] from rfl) (Reps.one (show Kd.M (Kd.int .u32) _ _ _ 1873313359 [.int .u32 1873313359] from rfl) (Reps.one (show Kd.M (Kd.int .u32) _ _ _ 4264355552 [.int .u32 4264355552] from rfl) (Reps.one (show Kd.M (Kd.int .u32) _ _ _ 2734768916 [.int .u32 2734768916] from rfl) (Reps.one (show Kd.M (Kd.int .u32) _ _ _ 1309151649 [.int .u32 1309151649] from rfl) (Reps.one (show Kd.M (Kd.int .u32) _ _ _ 4149444226 [.int .u32 4149444226] from rfl) (Reps.one (show Kd.M (Kd.int .u32) _ _ _ 3174756917 [.int .u32 3174756917] from rfl) (Reps.one (show Kd.M (Kd.int .u32) _ _ _ 718787259 [.int .u32 718787259] from rfl) (Reps.one (show Kd.M (Kd.int .u32) _ _ _ 3951481745 [.int .u32 3951481745] from rfl) (Reps.none _ _)))))))))))))))))))))))))))))))))))))))))))))))))))))))))))))))))); intro v191 w1 ho2 hb hg_ hnew_; clear hg_ hnew_; (first | rw [← Ny190.out] at ho2 | (simp only [Int.reduceToNat] at ho2; rw [← Ny190.out] at ho2)); have n0_ := Aside0.mk (Kd.R_lower ho2 (below_size (by repeat (first | (with_reducible first | exact HB.out | apply pA | apply pN | apply pD) | exact HB.out)))); have n1_ := Aside0.mk (below_step (by repeat (first | (with_reducible first | exact HB.out | apply pA | apply pN | apply pD) | exact HB.out)) hb); clear HB; have HO192 := n0_; have HB := n1_; clear n0_ n1_; clear hb ho2))
  go_ret
  exact ⟨_, by first | rfl | (simp [errW_none, errW_some] <;> rfl) | (simp [*, errW_none, errW_some] <;> rfl), by (with_reducible repeat (first | apply Kd.R_alloc | apply Kd.R_drewN | apply Kd.R_drew)); exact HO192.out, by repeat (first | (with_reducible first | exact HB.out | apply pA | apply pN | apply pD) | exact HB.out)⟩

end Go.Proofs.Ytpbkdphilcodmaa.Q

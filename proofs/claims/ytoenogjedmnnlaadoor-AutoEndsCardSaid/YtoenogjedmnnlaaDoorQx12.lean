-- written by this session's own program (wip/tools/myprint.py), over the kit's print
import Derived.Test.YtoenogjedmnnlaaDoorQx0
import Derived.Test.YtoenogjedmnnlaaDoorQx11
namespace Go.Proofs.YtoenogjedmnnlaaDoor.Q
open Go.RowKit Go.Proofs.YtoenogjedmnnlaaDoorW.PrintWords Go.Proofs.YtoenogjedmnnlaaDoorW.PrintLast Go.Proofs.YtoenogjedmnnlaaDoorW.PrintMore
open Go.Proofs.YtoenogjedmnnlaaDoorV Go.Proofs.YtoenogjedmnnlaaDoorG
attribute [local go_sem] max2_int min2_int max_two min_two max_three min_three max_four min_four   -- for this text's walks alone
set_option linter.unusedVariables false
set_option linter.unusedSimpArgs false

/-! ### portreeveref12_Quiet: function 19 -/
mutual
def portreeveref12_Quiet.l0 : Nat → Int → Int → Int → Int → Int → Int → Option (Int × Int × Int × Int)
  | 0, _, _, _, _, _, _ => none
  | k + 1, x1, x5, x651000, x651001, x651002, x651003 => if x5 < x1 then (portreeveref12_Quiet.j1 k x1 x5 (decide (x5 < 100)) x651000 x651001 x651002 x651003) else (portreeveref12_Quiet.j1 k x1 x5 false x651000 x651001 x651002 x651003)
def portreeveref12_Quiet.j1 : Nat → Int → Int → Bool → Int → Int → Int → Int → Option (Int × Int × Int × Int)
  | 0, _, _, _, _, _, _, _ => none
  | k + 1, x1, x5, x14, x651000, x651001, x651002, x651003 => if x14 = true then ((portreeveref12_Tick.f k x651000 x651001 x651002 x651003).bind fun bt652 => (portreeveref12_Quiet.l0 k x1 (wrap64 (x5 + 1)) bt652.1 bt652.2.1 bt652.2.2.1 bt652.2.2.2.1)) else (some (x651000, x651001, x651002, x651003))
end
def portreeveref12_Quiet.f (k : Nat) (a0_0 : Int) (a0_1 : Int) (a0_2 : Int) (a0_3 : Int) (a1 : Int) : Option (Int × Int × Int × Int) := portreeveref12_Quiet.l0 k a1 0 a0_0 a0_1 a0_2 a0_3
theorem portreeveref12_Quiet.mono_l : ∀ k, (∀ y0 y1 y2 y3 y4 y5, LeO (portreeveref12_Quiet.l0 k y0 y1 y2 y3 y4 y5) (portreeveref12_Quiet.l0 (k + 1) y0 y1 y2 y3 y4 y5)) ∧ (∀ y0 y1 y2 y3 y4 y5 y6, LeO (portreeveref12_Quiet.j1 k y0 y1 y2 y3 y4 y5 y6) (portreeveref12_Quiet.j1 (k + 1) y0 y1 y2 y3 y4 y5 y6))
  | 0 => ⟨fun _ _ _ _ _ _ r h => by simp [portreeveref12_Quiet.l0] at h, fun _ _ _ _ _ _ _ r h => by simp [portreeveref12_Quiet.j1] at h⟩
  | k + 1 => by
    obtain ⟨ih0, ih1⟩ := portreeveref12_Quiet.mono_l k
    refine ⟨?_, ?_⟩
    · intro y0 y1 y2 y3 y4 y5
      unfold portreeveref12_Quiet.l0
      repeat' first
      | (with_reducible exact ih0 _ _ _ _ _ _)
      | (with_reducible exact ih1 _ _ _ _ _ _ _)
      | (with_reducible exact portreeveref12_Tick.mono _ _ _ _ _)
      | (with_reducible exact LeO.refl _)
      | (with_reducible exact LeO.none _)
      | (with_reducible refine LeO.ite ?_ ?_)
      | (with_reducible refine LeO.bind ?_ (fun _ => ?_))
      | exact ih0 _ _ _ _ _ _
      | exact ih1 _ _ _ _ _ _ _
      | exact portreeveref12_Tick.mono _ _ _ _ _
      | exact LeO.none _
      | refine LeO.ite ?_ ?_
      | refine LeO.bind ?_ (fun _ => ?_)
    · intro y0 y1 y2 y3 y4 y5 y6
      unfold portreeveref12_Quiet.j1
      repeat' first
      | (with_reducible exact ih0 _ _ _ _ _ _)
      | (with_reducible exact ih1 _ _ _ _ _ _ _)
      | (with_reducible exact portreeveref12_Tick.mono _ _ _ _ _)
      | (with_reducible exact LeO.refl _)
      | (with_reducible exact LeO.none _)
      | (with_reducible refine LeO.ite ?_ ?_)
      | (with_reducible refine LeO.bind ?_ (fun _ => ?_))
      | exact ih0 _ _ _ _ _ _
      | exact ih1 _ _ _ _ _ _ _
      | exact portreeveref12_Tick.mono _ _ _ _ _
      | exact LeO.none _
      | refine LeO.ite ?_ ?_
      | refine LeO.bind ?_ (fun _ => ?_)
theorem portreeveref12_Quiet.mono : ∀ a0 a1 a2 a3 a4 k, LeO (portreeveref12_Quiet.f k a0 a1 a2 a3 a4) (portreeveref12_Quiet.f (k + 1) a0 a1 a2 a3 a4) := by
  intro a0 a1 a2 a3 a4 k
  obtain ⟨ih0, ih1⟩ := portreeveref12_Quiet.mono_l k
  unfold portreeveref12_Quiet.f
  repeat' first
      | (with_reducible exact ih0 _ _ _ _ _ _)
      | (with_reducible exact ih1 _ _ _ _ _ _ _)
      | (with_reducible exact portreeveref12_Tick.mono _ _ _ _ _)
      | (with_reducible exact LeO.refl _)
      | (with_reducible exact LeO.none _)
      | (with_reducible refine LeO.ite ?_ ?_)
      | (with_reducible refine LeO.bind ?_ (fun _ => ?_))
      | exact ih0 _ _ _ _ _ _
      | exact ih1 _ _ _ _ _ _ _
      | exact portreeveref12_Tick.mono _ _ _ _ _
      | exact LeO.none _
      | refine LeO.ite ?_ ?_
      | refine LeO.bind ?_ (fun _ => ?_)
set_option maxHeartbeats 8000000 in
set_option maxRecDepth 100000 in
theorem portreeveref12_Quiet.calls (k : Nat) (a0_0 : Int) (a0_1 : Int) (a0_2 : Int) (a0_3 : Int) (a1 : Int) (r1 : Int) (r2 : Int) (r3 : Int) (r4 : Int) (w : World) (h : portreeveref12_Quiet.f k a0_0 a0_1 a0_2 a0_3 a1 = some (r1, r2, r3, r4)) :
    Calls Tryd.prog 19 #[.agg #[.int .i64 a0_0, .int .i64 a0_1, .int .i64 a0_2, .int .u8 a0_3], .int .i64 a1] w fun e w' => e = .returned (.agg #[.int .i64 r1, .int .i64 r2, .int .i64 r3, .int .u8 r4]) ∧ Below w.heap.size w w' := by
  have hu23 := Tryd.underlying23
  have HB := Aside0.mk (Below.refl w.heap.size w)
  have H : (portreeveref12_Quiet.l0 k a1 0 a0_0 a0_1 a0_2 a0_3) = some (r1, r2, r3, r4) := h
  clear h
  have H' := Aside0.mk H
  clear H
  go_enter Tryd.func19, Tryd.ntmps19
  go_wp2_with (first | ((with_reducible refine gate_dst (N := 2) rfl ?_); refine box_event ?hg (N := 2) ?hd (cs := #[.int .i64 a0_0, .int .i64 a0_1, .int .i64 a0_2, .int .u8 a0_3]) (t := 23) ?hr ?_; (case hd => rfl); (case hg => rfl); (case hr => first | (go_simp; done) | (go_simp; rfl)); intro gb650 hg w3 hbox hb; have n0_ := Aside0.mk (below_step (by repeat (first | (with_reducible first | exact HB.out | apply pA | apply pN | apply pD) | exact HB.out)) hb); have n1_ := Aside0.mk (hbox); have n2_ := Aside0.mk ((by rw [hg]; exact (below_size (by repeat (first | (with_reducible first | exact HB.out | apply pA | apply pN | apply pD) | exact HB.out))) : w.heap.size ≤ gb650)); have n3_ := Aside0.mk ((by rw [hg]; exact (below_size (by repeat (first | (with_reducible first | exact HB.out | apply pA | apply pN | apply pD) | exact HB.out))) : w.heap.size ≤ gb650)); clear HB; have HB := n0_; have BK650 := n1_; have GW650 := n2_; have GE650 := n3_; clear n0_ n1_ n2_ n3_; clear hb hbox hg) | ((with_reducible refine gate_dst (N := 4) rfl ?_); refine box_event ?hg (N := 4) ?hd (cs := #[.int .i64 0, .int .i64 0, .int .i64 0, .int .u8 0]) (t := 23) ?hr ?_; (case hd => rfl); (case hg => rfl); (case hr => first | (go_simp; done) | (go_simp; rfl)); intro gb651 hg w4 hbox hb; have n0_ := Aside0.mk (blk_below (g := gb650) (o := .cells #[.int .i64 a0_0, .int .i64 a0_1, .int .i64 a0_2, .int .u8 a0_3] 23 (0, 0)) (by (with_reducible repeat (first | refine qN ?_ _ | refine qD ?_ | refine qA ?_ _)); exact BK650.out) hb); have n1_ := Aside0.mk (below_step (by repeat (first | (with_reducible first | exact HB.out | apply pA | apply pN | apply pD | refine pS ?_ GE650.out) | exact HB.out)) hb); have n2_ := Aside0.mk (hbox); have n3_ := Aside0.mk ((by rw [hg]; exact (below_size (by repeat (first | (with_reducible first | exact HB.out | apply pA | apply pN | apply pD | refine pS ?_ GE650.out) | exact HB.out))) : w.heap.size ≤ gb651)); have n4_ := Aside0.mk ((by rw [hg]; exact (below_size (by repeat (first | (with_reducible first | exact HB.out | apply pA | apply pN | apply pD | refine pS ?_ GE650.out) | exact HB.out))) : w.heap.size ≤ gb651)); have n5_ := Aside0.mk ((by rw [hg]; exact Nat.ne_of_lt (blk_lt (g := gb650) (o := .cells #[.int .i64 a0_0, .int .i64 a0_1, .int .i64 a0_2, .int .u8 a0_3] 23 (0, 0)) (by (with_reducible repeat (first | refine qN ?_ _ | refine qD ?_ | refine qA ?_ _)); exact BK650.out)) : gb650 ≠ gb651)); have n6_ := Aside0.mk ((by rw [hg]; exact Nat.ne_of_gt (blk_lt (g := gb650) (o := .cells #[.int .i64 a0_0, .int .i64 a0_1, .int .i64 a0_2, .int .u8 a0_3] 23 (0, 0)) (by (with_reducible repeat (first | refine qN ?_ _ | refine qD ?_ | refine qA ?_ _)); exact BK650.out)) : gb651 ≠ gb650)); clear BK650; clear HB; have BK650 := n0_; have HB := n1_; have BK651 := n2_; have GW651 := n3_; have GE651 := n4_; have NB650_651 := n5_; have NB651_650 := n6_; clear n0_ n1_ n2_ n3_ n4_ n5_ n6_; clear hb hbox hg))
  go_loopg [5] k (fun kq v5 w' => ∃ (x5_1 : Int) (x651000_1 : Int) (x651001_1 : Int) (x651002_1 : Int) (x651003_1 : Int), v5 = .int .i64 x5_1 ∧ Aside0 (portreeveref12_Quiet.l0 kq a1 x5_1 x651000_1 x651001_1 x651002_1 x651003_1 = some (r1, r2, r3, r4)) ∧ Aside0 (kq ≤ k) ∧ Aside0 (w'.heap[gb650]? = some (.cells #[.int .i64 x651000_1, .int .i64 x651001_1, .int .i64 x651002_1, .int .u8 x651003_1] 23 (0, 0))) ∧ Aside0 (w'.heap[gb651]? = some (.cells #[.int .i64 0, .int .i64 0, .int .i64 0, .int .u8 0] 23 (0, 0))) ∧ Aside0 (Below w.heap.size w w'))
  case atStart => exact ⟨(0), (a0_0), (a0_1), (a0_2), (a0_3), (by first | rfl | (simp; done) | (simp [*]; done)), H', ⟨Nat.le_refl _⟩, ⟨by (with_reducible repeat (first | refine qN ?_ _ | refine qD ?_ | refine qA ?_ _)); exact BK650.out⟩, ⟨by (with_reducible repeat (first | refine qN ?_ _ | refine qD ?_ | refine qA ?_ _)); exact BK651.out⟩, ⟨by repeat (first | (with_reducible first | exact HB.out | apply pA | apply pN | apply pD | refine pS ?_ GE650.out | refine pS ?_ GE651.out) | exact HB.out)⟩⟩
  case round =>
    clear H'
    try clear c1
    try clear p2
    obtain ⟨x5_1, x651000_1, x651001_1, x651002_1, x651003_1, rfl, HA, HK1, BK650, BK651, HB⟩ := hrel
    cases gk with
    | zero => exact absurd HA.out (by simp [portreeveref12_Quiet.l0])
    | succ k1 =>
      have H := HA.out
      clear HA
      simp only [portreeveref12_Quiet.l0] at H
      have HC5 := Aside0.mk H
      clear H
      go_upto_region 2 with (fail)
      go_cut [14] (fun v14 wc => ∃ (kq : Nat) (x14_4 : Bool), v14 = .bool x14_4 ∧ Aside0 (portreeveref12_Quiet.j1 kq a1 x5_1 x14_4 x651000_1 x651001_1 x651002_1 x651003_1 = some (r1, r2, r3, r4)) ∧ Aside0 (kq ≤ k1) ∧ Aside0 (wc.heap[gb650]? = some (.cells #[.int .i64 x651000_1, .int .i64 x651001_1, .int .i64 x651002_1, .int .u8 x651003_1] 23 (0, 0))) ∧ Aside0 (wc.heap[gb651]? = some (.cells #[.int .i64 0, .int .i64 0, .int .i64 0, .int .u8 0] 23 (0, 0))) ∧ Aside0 (Below w.heap.size w wc))
      case first =>
        have H := HC5.out
        clear HC5
        by_cases c6 : x5_1 < a1
        · rw [if_pos c6] at H
          have c6b0 : decide (x5_1 < a1) = true := decide_eq_true c6
          clear c6
          (first | rw [c6b0] | (simp only [i64_w, i32_w]; rw [c6b0]) | skip)
          have H' := Aside0.mk H
          clear H
          go_wp2
          go_meet
          case rel => exact ⟨_, (decide (x5_1 < 100)), (by first | rfl | (simp; done) | (simp [*]; done)), H', ⟨by have := HK1.out; first | omega | exact Nat.le_refl _⟩, ⟨by (with_reducible repeat (first | refine qN ?_ _ | refine qD ?_ | refine qA ?_ _)); exact BK650.out⟩, ⟨by (with_reducible repeat (first | refine qN ?_ _ | refine qD ?_ | refine qA ?_ _)); exact BK651.out⟩, ⟨by repeat (first | (with_reducible first | exact HB.out | apply pA | apply pN | apply pD | refine pS ?_ GE650.out | refine pS ?_ GE651.out) | exact HB.out)⟩⟩
        · rw [if_neg c6] at H
          have c6b0 : decide (x5_1 < a1) = false := decide_eq_false c6
          clear c6
          (first | rw [c6b0] | (simp only [i64_w, i32_w]; rw [c6b0]) | skip)
          have H' := Aside0.mk H
          clear H
          go_wp2
          go_meet
          case rel => exact ⟨_, (false), (by first | rfl | (simp; done) | (simp [*]; done)), H', ⟨by have := HK1.out; first | omega | exact Nat.le_refl _⟩, ⟨by (with_reducible repeat (first | refine qN ?_ _ | refine qD ?_ | refine qA ?_ _)); exact BK650.out⟩, ⟨by (with_reducible repeat (first | refine qN ?_ _ | refine qD ?_ | refine qA ?_ _)); exact BK651.out⟩, ⟨by repeat (first | (with_reducible first | exact HB.out | apply pA | apply pN | apply pD | refine pS ?_ GE650.out | refine pS ?_ GE651.out) | exact HB.out)⟩⟩
      case rest =>
        clear HC5
        try clear c1
        try clear p2
        try clear c6
        try clear c6b0
        try clear p2
        obtain ⟨kq, x14_4, rfl, HA, HJ4, BK650, BK651, HB⟩ := hcut
        cases kq with
        | zero => exact absurd HA.out (by simp [portreeveref12_Quiet.j1])
        | succ kj4 =>
          have H := HA.out
          clear HA
          simp only [portreeveref12_Quiet.j1] at H
          by_cases c7 : x14_4 = true
          · subst c7
            have H1 : ((portreeveref12_Tick.f kj4 x651000_1 x651001_1 x651002_1 x651003_1).bind fun bt652 => (portreeveref12_Quiet.l0 kj4 a1 (wrap64 (x5_1 + 1)) bt652.1 bt652.2.1 bt652.2.2.1 bt652.2.2.2.1)) = some (r1, r2, r3, r4) := by rw [if_pos rfl] at H; exact H
            clear H
            have H := H1
            clear H1
            replace H := Option.bind_eq_some_iff.mp H
            obtain ⟨⟨t652, t653, t654, t655, t656⟩, A80, H⟩ := H
            replace H : (portreeveref12_Quiet.l0 kj4 a1 (wrap64 (x5_1 + 1)) t652 t653 t654 t655) = some (r1, r2, r3, r4) := H
            have A8 := Aside0.mk A80
            clear A80
            have H' := Aside0.mk H
            clear H
            have hnb9 := NB650_651.out
            have hnc9 := NB651_650.out
            have hcz10_0 : wc.cell? ⟨gb650, 0, none⟩ = some (.int .i64 x651000_1) := (blk_cell BK650.out 0).trans rfl
            have hcz10_1 : wc.cell? ⟨gb650, 1, none⟩ = some (.int .i64 x651001_1) := (blk_cell BK650.out 1).trans rfl
            have hcz10_2 : wc.cell? ⟨gb650, 2, none⟩ = some (.int .i64 x651002_1) := (blk_cell BK650.out 2).trans rfl
            have hcz10_3 : wc.cell? ⟨gb650, 3, none⟩ = some (.int .u8 x651003_1) := (blk_cell BK650.out 3).trans rfl
            have hfz10_0 := blk_frozen BK650.out 0
            have hfz10_1 := blk_frozen BK650.out 1
            have hfz10_2 := blk_frozen BK650.out 2
            have hfz10_3 := blk_frozen BK650.out 3
            go_wp2_with (first | ((with_reducible refine gate_callee (f := 16) rfl ?_); refine goesL_ (some 19) rfl rfl Tryd.func16 (by kernel_rfl) rfl #[.agg #[.int .i64 x651000_1, .int .i64 x651001_1, .int .i64 x651002_1, .int .u8 x651003_1]] rfl (by (try simp only [List.map_toArray, List.map_cons, List.map_nil]); first | done | rfl | (simp only [List.length_drop, List.length_take]; rfl)) ?_; (with_reducible refine (portreeveref12_Tick.calls kj4 x651000_1 x651001_1 x651002_1 x651003_1 t652 t653 t654 t655 t656 _ A8.out).mono ?_); rintro e w11 ⟨v657, rfl, ho0, hb⟩; refine ⟨_, rfl, ?_⟩; have n0_ := Aside0.mk (Kd.V_lower (Kd.V_mono (ok' := fun k_ => k_ ≠ gb650 ∧ k_ ≠ gb651) ho0 (fun k_ hk_ => ⟨(Kd.freshB (g := gb650) (o := .cells #[.int .i64 x651000_1, .int .i64 x651001_1, .int .i64 x651002_1, .int .u8 x651003_1] 23 (0, 0)) (by (with_reducible repeat (first | refine qN ?_ _ | refine qD ?_ | refine qA ?_ _)); exact BK650.out) k_ hk_), (Kd.freshB (g := gb651) (o := .cells #[.int .i64 0, .int .i64 0, .int .i64 0, .int .u8 0] 23 (0, 0)) (by (with_reducible repeat (first | refine qN ?_ _ | refine qD ?_ | refine qA ?_ _)); exact BK651.out) k_ hk_)⟩)) (below_size (by repeat (first | (with_reducible first | exact HB.out | apply pA | apply pN | apply pD | refine pS ?_ GE650.out | refine pS ?_ GE651.out) | exact HB.out)))); have n1_ := Aside0.mk (blk_below (g := gb650) (o := .cells #[.int .i64 x651000_1, .int .i64 x651001_1, .int .i64 x651002_1, .int .u8 x651003_1] 23 (0, 0)) (by (with_reducible repeat (first | refine qN ?_ _ | refine qD ?_ | refine qA ?_ _)); exact BK650.out) hb); have n2_ := Aside0.mk (blk_below (g := gb651) (o := .cells #[.int .i64 0, .int .i64 0, .int .i64 0, .int .u8 0] 23 (0, 0)) (by (with_reducible repeat (first | refine qN ?_ _ | refine qD ?_ | refine qA ?_ _)); exact BK651.out) hb); have n3_ := Aside0.mk (below_step (by repeat (first | (with_reducible first | exact HB.out | apply pA | apply pN | apply pD | refine pS ?_ GE650.out | refine pS ?_ GE651.out) | exact HB.out)) hb); clear BK650; clear BK651; clear HB; have HO658 := n0_; have BK650 := n1_; have BK651 := n2_; have HB := n3_; clear n0_ n1_ n2_ n3_; (try clear hb); (try clear hb2); (try clear hk); (try clear hi); (try clear ho0)) | ((with_reducible refine gate_dst (N := 6) rfl ?_); refine box_event ?hg (N := 6) ?hd (cs := #[.int .i64 0, .int .i64 0, .int .i64 0, .int .u8 0]) (t := 23) ?hr ?_; (case hd => rfl); (case hg => rfl); (case hr => first | (go_simp; done) | (go_simp; rfl)); intro gb659 hg w12 hbox hb; have n0_ := Aside0.mk (Kd.V_below (Kd.V_elderB (by (with_reducible repeat (first | apply Kd.V_alloc | apply Kd.V_drewN | apply Kd.V_drew)); exact HO658.out) gb659 (Nat.le_of_eq hg.symm)) hb); have n1_ := Aside0.mk (blk_below (g := gb650) (o := .cells #[.int .i64 x651000_1, .int .i64 x651001_1, .int .i64 x651002_1, .int .u8 x651003_1] 23 (0, 0)) (by (with_reducible repeat (first | refine qN ?_ _ | refine qD ?_ | refine qA ?_ _)); exact BK650.out) hb); have n2_ := Aside0.mk (blk_below (g := gb651) (o := .cells #[.int .i64 0, .int .i64 0, .int .i64 0, .int .u8 0] 23 (0, 0)) (by (with_reducible repeat (first | refine qN ?_ _ | refine qD ?_ | refine qA ?_ _)); exact BK651.out) hb); have n3_ := Aside0.mk (below_step (by repeat (first | (with_reducible first | exact HB.out | apply pA | apply pN | apply pD | refine pS ?_ GE650.out | refine pS ?_ GE651.out) | exact HB.out)) hb); have n4_ := Aside0.mk (hbox); have n5_ := Aside0.mk ((by rw [hg]; exact (below_size (by repeat (first | (with_reducible first | exact HB.out | apply pA | apply pN | apply pD | refine pS ?_ GE650.out | refine pS ?_ GE651.out) | exact HB.out))) : w.heap.size ≤ gb659)); have n6_ := Aside0.mk ((by rw [hg]; exact (below_size (by repeat (first | (with_reducible first | exact HB.out | apply pA | apply pN | apply pD | refine pS ?_ GE650.out | refine pS ?_ GE651.out) | exact HB.out))) : w.heap.size ≤ gb659)); have n7_ := Aside0.mk ((by rw [hg]; exact Nat.ne_of_lt (blk_lt (g := gb650) (o := .cells #[.int .i64 x651000_1, .int .i64 x651001_1, .int .i64 x651002_1, .int .u8 x651003_1] 23 (0, 0)) (by (with_reducible repeat (first | refine qN ?_ _ | refine qD ?_ | refine qA ?_ _)); exact BK650.out)) : gb650 ≠ gb659)); have n8_ := Aside0.mk ((by rw [hg]; exact Nat.ne_of_gt (blk_lt (g := gb650) (o := .cells #[.int .i64 x651000_1, .int .i64 x651001_1, .int .i64 x651002_1, .int .u8 x651003_1] 23 (0, 0)) (by (with_reducible repeat (first | refine qN ?_ _ | refine qD ?_ | refine qA ?_ _)); exact BK650.out)) : gb659 ≠ gb650)); have n9_ := Aside0.mk ((by rw [hg]; exact Nat.ne_of_lt (blk_lt (g := gb651) (o := .cells #[.int .i64 0, .int .i64 0, .int .i64 0, .int .u8 0] 23 (0, 0)) (by (with_reducible repeat (first | refine qN ?_ _ | refine qD ?_ | refine qA ?_ _)); exact BK651.out)) : gb651 ≠ gb659)); have n10_ := Aside0.mk ((by rw [hg]; exact Nat.ne_of_gt (blk_lt (g := gb651) (o := .cells #[.int .i64 0, .int .i64 0, .int .i64 0, .int .u8 0] 23 (0, 0)) (by (with_reducible repeat (first | refine qN ?_ _ | refine qD ?_ | refine qA ?_ _)); exact BK651.out)) : gb659 ≠ gb651)); clear HO658; clear BK650; clear BK651; clear HB; have HO658 := n0_; have BK650 := n1_; have BK651 := n2_; have HB := n3_; have BK659 := n4_; have GW659 := n5_; have GE659 := n6_; have NB650_659 := n7_; have NB659_650 := n8_; have NB651_659 := n9_; have NB659_651 := n10_; clear n0_ n1_ n2_ n3_ n4_ n5_ n6_ n7_ n8_ n9_ n10_; clear hb hbox hg; have hnb13 := NB659_650.out; have hnc13 := NB650_659.out; have hnb14 := NB659_651.out; have hnc14 := NB651_659.out; have hcz15_0 : w12.cell? ⟨gb659, 0, none⟩ = some (.int .i64 0) := (blk_cell BK659.out 0).trans rfl; have hcz15_1 : w12.cell? ⟨gb659, 1, none⟩ = some (.int .i64 0) := (blk_cell BK659.out 1).trans rfl; have hcz15_2 : w12.cell? ⟨gb659, 2, none⟩ = some (.int .i64 0) := (blk_cell BK659.out 2).trans rfl; have hcz15_3 : w12.cell? ⟨gb659, 3, none⟩ = some (.int .u8 0) := (blk_cell BK659.out 3).trans rfl; have hfz15_0 := blk_frozen BK659.out 0; have hfz15_1 := blk_frozen BK659.out 1; have hfz15_2 := blk_frozen BK659.out 2; have hfz15_3 := blk_frozen BK659.out 3; have hcz16_0 : w12.cell? ⟨gb650, 0, none⟩ = some (.int .i64 x651000_1) := (blk_cell BK650.out 0).trans rfl; have hcz16_1 : w12.cell? ⟨gb650, 1, none⟩ = some (.int .i64 x651001_1) := (blk_cell BK650.out 1).trans rfl; have hcz16_2 : w12.cell? ⟨gb650, 2, none⟩ = some (.int .i64 x651002_1) := (blk_cell BK650.out 2).trans rfl; have hcz16_3 : w12.cell? ⟨gb650, 3, none⟩ = some (.int .u8 x651003_1) := (blk_cell BK650.out 3).trans rfl; have hfz16_0 := blk_frozen BK650.out 0; have hfz16_1 := blk_frozen BK650.out 1; have hfz16_2 := blk_frozen BK650.out 2; have hfz16_3 := blk_frozen BK650.out 3))
            go_roundg kj4
            case measure => have := HK1.out; have := HJ4.out; omega
            case rel => exact ⟨(wrap64 (x5_1 + 1)), (t652), (t653), (t654), (t655), (by first | rfl | (simp; done) | (simp [*]; done)), H', ⟨by have := HK1.out; have := HJ4.out; omega⟩, ⟨by (with_reducible repeat (first | refine qN ?_ _ | refine qD ?_ | refine qA ?_ _)); refine blk_put (cs := #[.int .i64 t652, .int .i64 t653, .int .i64 t654, .int .u8 x651003_1]) ?_ 3 _ rfl; (with_reducible repeat (first | refine qN ?_ _ | refine qD ?_ | refine qA ?_ _)); refine blk_put (cs := #[.int .i64 t652, .int .i64 t653, .int .i64 x651002_1, .int .u8 x651003_1]) ?_ 2 _ rfl; (with_reducible repeat (first | refine qN ?_ _ | refine qD ?_ | refine qA ?_ _)); refine blk_put (cs := #[.int .i64 t652, .int .i64 x651001_1, .int .i64 x651002_1, .int .u8 x651003_1]) ?_ 1 _ rfl; (with_reducible repeat (first | refine qN ?_ _ | refine qD ?_ | refine qA ?_ _)); refine blk_put (cs := #[.int .i64 x651000_1, .int .i64 x651001_1, .int .i64 x651002_1, .int .u8 x651003_1]) ?_ 0 _ rfl; (with_reducible repeat (first | refine qN ?_ _ | refine qD ?_ | refine qA ?_ _)); refine blk_far ?_ NB650_659.out _; (with_reducible repeat (first | refine qN ?_ _ | refine qD ?_ | refine qA ?_ _)); refine blk_far ?_ NB650_659.out _; (with_reducible repeat (first | refine qN ?_ _ | refine qD ?_ | refine qA ?_ _)); refine blk_far ?_ NB650_659.out _; (with_reducible repeat (first | refine qN ?_ _ | refine qD ?_ | refine qA ?_ _)); refine blk_far ?_ NB650_659.out _; (with_reducible repeat (first | refine qN ?_ _ | refine qD ?_ | refine qA ?_ _)); exact BK650.out⟩, ⟨by (with_reducible repeat (first | refine qN ?_ _ | refine qD ?_ | refine qA ?_ _)); refine blk_far ?_ NB651_650.out _; (with_reducible repeat (first | refine qN ?_ _ | refine qD ?_ | refine qA ?_ _)); refine blk_far ?_ NB651_650.out _; (with_reducible repeat (first | refine qN ?_ _ | refine qD ?_ | refine qA ?_ _)); refine blk_far ?_ NB651_650.out _; (with_reducible repeat (first | refine qN ?_ _ | refine qD ?_ | refine qA ?_ _)); refine blk_far ?_ NB651_650.out _; (with_reducible repeat (first | refine qN ?_ _ | refine qD ?_ | refine qA ?_ _)); refine blk_far ?_ NB651_659.out _; (with_reducible repeat (first | refine qN ?_ _ | refine qD ?_ | refine qA ?_ _)); refine blk_far ?_ NB651_659.out _; (with_reducible repeat (first | refine qN ?_ _ | refine qD ?_ | refine qA ?_ _)); refine blk_far ?_ NB651_659.out _; (with_reducible repeat (first | refine qN ?_ _ | refine qD ?_ | refine qA ?_ _)); refine blk_far ?_ NB651_659.out _; (with_reducible repeat (first | refine qN ?_ _ | refine qD ?_ | refine qA ?_ _)); exact BK651.out⟩, ⟨by repeat (first | (with_reducible first | exact HB.out | apply pA | apply pN | apply pD | refine pS ?_ GE650.out | refine pS ?_ GE651.out | refine pS ?_ GE659.out) | exact HB.out)⟩⟩
          · replace c7 := Bool.eq_false_iff.mpr c7
            subst c7
            have H1 : (some (x651000_1, x651001_1, x651002_1, x651003_1)) = some (r1, r2, r3, r4) := by rw [if_neg (show ¬ (false = true) by decide)] at H; exact H
            clear H
            have H := H1
            clear H1
            simp only [Option.some.injEq, Prod.mk.injEq] at H
            obtain ⟨rfl, rfl, rfl, rfl⟩ := H
            have hnb17 := NB650_651.out
            have hnc17 := NB651_650.out
            have hcz18_0 : wc.cell? ⟨gb650, 0, none⟩ = some (.int .i64 x651000_1) := (blk_cell BK650.out 0).trans rfl
            have hcz18_1 : wc.cell? ⟨gb650, 1, none⟩ = some (.int .i64 x651001_1) := (blk_cell BK650.out 1).trans rfl
            have hcz18_2 : wc.cell? ⟨gb650, 2, none⟩ = some (.int .i64 x651002_1) := (blk_cell BK650.out 2).trans rfl
            have hcz18_3 : wc.cell? ⟨gb650, 3, none⟩ = some (.int .u8 x651003_1) := (blk_cell BK650.out 3).trans rfl
            have hfz18_0 := blk_frozen BK650.out 0
            have hfz18_1 := blk_frozen BK650.out 1
            have hfz18_2 := blk_frozen BK650.out 2
            have hfz18_3 := blk_frozen BK650.out 3
            have hcz19_0 : wc.cell? ⟨gb651, 0, none⟩ = some (.int .i64 0) := (blk_cell BK651.out 0).trans rfl
            have hcz19_1 : wc.cell? ⟨gb651, 1, none⟩ = some (.int .i64 0) := (blk_cell BK651.out 1).trans rfl
            have hcz19_2 : wc.cell? ⟨gb651, 2, none⟩ = some (.int .i64 0) := (blk_cell BK651.out 2).trans rfl
            have hcz19_3 : wc.cell? ⟨gb651, 3, none⟩ = some (.int .u8 0) := (blk_cell BK651.out 3).trans rfl
            have hfz19_0 := blk_frozen BK651.out 0
            have hfz19_1 := blk_frozen BK651.out 1
            have hfz19_2 := blk_frozen BK651.out 2
            have hfz19_3 := blk_frozen BK651.out 3
            go_wp2
            refine bodyPost_ret (results_cell_row rfl _ _ gb651 23 #[.int .i64 x651000_1, .int .i64 x651001_1, .int .i64 x651002_1, .int .u8 x651003_1] (0, 0) _ rfl (by (with_reducible repeat (first | refine qN ?_ _ | refine qD ?_ | refine qA ?_ _)); refine blk_put (cs := #[.int .i64 x651000_1, .int .i64 x651001_1, .int .i64 x651002_1, .int .u8 0]) ?_ 3 _ rfl; (with_reducible repeat (first | refine qN ?_ _ | refine qD ?_ | refine qA ?_ _)); refine blk_put (cs := #[.int .i64 x651000_1, .int .i64 x651001_1, .int .i64 0, .int .u8 0]) ?_ 2 _ rfl; (with_reducible repeat (first | refine qN ?_ _ | refine qD ?_ | refine qA ?_ _)); refine blk_put (cs := #[.int .i64 x651000_1, .int .i64 0, .int .i64 0, .int .u8 0]) ?_ 1 _ rfl; (with_reducible repeat (first | refine qN ?_ _ | refine qD ?_ | refine qA ?_ _)); refine blk_put (cs := #[.int .i64 0, .int .i64 0, .int .i64 0, .int .u8 0]) ?_ 0 _ rfl; (with_reducible repeat (first | refine qN ?_ _ | refine qD ?_ | refine qA ?_ _)); exact BK651.out) Tryd.underlying23 rfl (by kernel_rfl)) rfl ?_
            exact ⟨by first | rfl | (simp [errW_none, errW_some] <;> rfl) | (simp [*, errW_none, errW_some] <;> rfl), by repeat (first | (with_reducible first | exact HB.out | apply pA | apply pN | apply pD | refine pS ?_ GE650.out | refine pS ?_ GE651.out) | exact HB.out)⟩

end Go.Proofs.YtoenogjedmnnlaaDoor.Q

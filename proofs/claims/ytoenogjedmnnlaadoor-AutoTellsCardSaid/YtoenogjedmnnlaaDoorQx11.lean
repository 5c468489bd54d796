-- written by this session's own program (wip/tools/myprint.py), over the kit's print
import Derived.Test.YtoenogjedmnnlaaDoorQx0
import Derived.Test.YtoenogjedmnnlaaDoorQx6
import Derived.Test.YtoenogjedmnnlaaDoorQx10
namespace Go.Proofs.YtoenogjedmnnlaaDoor.Q
open Go.RowKit Go.Proofs.YtoenogjedmnnlaaDoorW.PrintWords Go.Proofs.YtoenogjedmnnlaaDoorW.PrintLast Go.Proofs.YtoenogjedmnnlaaDoorW.PrintMore
open Go.Proofs.YtoenogjedmnnlaaDoorV Go.Proofs.YtoenogjedmnnlaaDoorG
attribute [local go_sem] max2_int min2_int max_two min_two max_three min_three max_four min_four   -- for this text's walks alone
set_option linter.unusedVariables false
set_option linter.unusedSimpArgs false

/-! ### portreeveref12_Do: function 14 -/
mutual
def portreeveref12_Do.l0 : Nat → List Int → Int → Bool → Int → Int → Int → Int → Int → Option (Int × Int × Int × Int × List Int × Int)
  | 0, _, _, _, _, _, _, _, _ => none
  | k + 1, x7, x8, x10, x11, x619000, x619001, x619002, x619003 => if x11 < (x7.length : Int) then (if 0 ≤ x11 then (if (rd x7 x11) = 5 then (if x10 = true then (portreeveref12_Do.l0 k x7 x8 x10 (wrap64 (x11 + 1)) x619000 2 x619002 x619003) else (portreeveref12_Do.l0 k x7 x8 x10 (wrap64 (x11 + 1)) x619000 5 x619002 x619003)) else (if (rd x7 x11) = 6 then (portreeveref12_Do.l0 k x7 x8 x10 (wrap64 (x11 + 1)) x619000 0 3 x619003) else (if (rd x7 x11) = 7 then (portreeveref12_Do.j1 k x7 x8 x10 x11 ((rd x7 x11) == 7) x619000 x619001 x619002 x619003) else (portreeveref12_Do.j1 k x7 x8 x10 x11 ((rd x7 x11) == 10) x619000 x619001 x619002 x619003)))) else (none)) else ((portreeveref11_Timed.f x8).bind fun t627 => (if t627 = true then (some (x8, x619001, x619002, x619003, x7, 0)) else (some (x8, x619001, 0, x619003, x7, 0))))
def portreeveref12_Do.j1 : Nat → List Int → Int → Bool → Int → Bool → Int → Int → Int → Int → Option (Int × Int × Int × Int × List Int × Int)
  | 0, _, _, _, _, _, _, _, _, _ => none
  | k + 1, x7, x8, x10, x11, x45, x619000, x619001, x619002, x619003 => if x45 = true then (portreeveref12_Do.l0 k x7 x8 x10 (wrap64 (x11 + 1)) x619000 (mx 0 (wrap64 (x619001 - 1))) 3 ((x619003 + 1) % 256)) else (portreeveref12_Do.l0 k x7 x8 x10 (wrap64 (x11 + 1)) x619000 x619001 x619002 x619003)
end
def portreeveref12_Do.f (k : Nat) (a0_0 : Int) (a0_1 : Int) (a0_2 : Int) (a0_3 : Int) (a1 : Int) : Option (Int × Int × Int × Int × List Int × Int) := (portreeveref11_Next.f k a0_0 a1).bind fun bt620 => (if bt620.2.2 = true then ((portreeveref11_Has.f k bt620.1 10).bind fun t625 => (portreeveref12_Do.l0 k bt620.1 bt620.2.1 t625 0 a0_0 a0_1 a0_2 a0_3)) else (some (a0_0, a0_1, a0_2, a0_3, ([] : List Int), 1)))
theorem portreeveref12_Do.mono_l : ∀ k, (∀ y0 y1 y2 y3 y4 y5 y6 y7, LeO (portreeveref12_Do.l0 k y0 y1 y2 y3 y4 y5 y6 y7) (portreeveref12_Do.l0 (k + 1) y0 y1 y2 y3 y4 y5 y6 y7)) ∧ (∀ y0 y1 y2 y3 y4 y5 y6 y7 y8, LeO (portreeveref12_Do.j1 k y0 y1 y2 y3 y4 y5 y6 y7 y8) (portreeveref12_Do.j1 (k + 1) y0 y1 y2 y3 y4 y5 y6 y7 y8))
  | 0 => ⟨fun _ _ _ _ _ _ _ _ r h => by simp [portreeveref12_Do.l0] at h, fun _ _ _ _ _ _ _ _ _ r h => by simp [portreeveref12_Do.j1] at h⟩
  | k + 1 => by
    obtain ⟨ih0, ih1⟩ := portreeveref12_Do.mono_l k
    refine ⟨?_, ?_⟩
    · intro y0 y1 y2 y3 y4 y5 y6 y7
      unfold portreeveref12_Do.l0
      repeat' first
      | (with_reducible exact ih0 _ _ _ _ _ _ _ _)
      | (with_reducible exact ih1 _ _ _ _ _ _ _ _ _)
      | (with_reducible exact portreeveref11_Has.mono _ _ _)
      | (with_reducible exact portreeveref11_Next.mono _ _ _)
      | (with_reducible exact LeO.refl _)
      | (with_reducible exact LeO.none _)
      | (with_reducible refine LeO.ite ?_ ?_)
      | (with_reducible refine LeO.bind ?_ (fun _ => ?_))
      | exact ih0 _ _ _ _ _ _ _ _
      | exact ih1 _ _ _ _ _ _ _ _ _
      | exact portreeveref11_Has.mono _ _ _
      | exact portreeveref11_Next.mono _ _ _
      | exact LeO.none _
      | refine LeO.ite ?_ ?_
      | refine LeO.bind ?_ (fun _ => ?_)
    · intro y0 y1 y2 y3 y4 y5 y6 y7 y8
      unfold portreeveref12_Do.j1
      repeat' first
      | (with_reducible exact ih0 _ _ _ _ _ _ _ _)
      | (with_reducible exact ih1 _ _ _ _ _ _ _ _ _)
      | (with_reducible exact portreeveref11_Has.mono _ _ _)
      | (with_reducible exact portreeveref11_Next.mono _ _ _)
      | (with_reducible exact LeO.refl _)
      | (with_reducible exact LeO.none _)
      | (with_reducible refine LeO.ite ?_ ?_)
      | (with_reducible refine LeO.bind ?_ (fun _ => ?_))
      | exact ih0 _ _ _ _ _ _ _ _
      | exact ih1 _ _ _ _ _ _ _ _ _
      | exact portreeveref11_Has.mono _ _ _
      | exact portreeveref11_Next.mono _ _ _
      | exact LeO.none _
      | refine LeO.ite ?_ ?_
      | refine LeO.bind ?_ (fun _ => ?_)
theorem portreeveref12_Do.mono : ∀ a0 a1 a2 a3 a4 k, LeO (portreeveref12_Do.f k a0 a1 a2 a3 a4) (portreeveref12_Do.f (k + 1) a0 a1 a2 a3 a4) := by
  intro a0 a1 a2 a3 a4 k
  obtain ⟨ih0, ih1⟩ := portreeveref12_Do.mono_l k
  unfold portreeveref12_Do.f
  repeat' first
      | (with_reducible exact ih0 _ _ _ _ _ _ _ _)
      | (with_reducible exact ih1 _ _ _ _ _ _ _ _ _)
      | (with_reducible exact portreeveref11_Has.mono _ _ _)
      | (with_reducible exact portreeveref11_Next.mono _ _ _)
      | (with_reducible exact LeO.refl _)
      | (with_reducible exact LeO.none _)
      | (with_reducible refine LeO.ite ?_ ?_)
      | (with_reducible refine LeO.bind ?_ (fun _ => ?_))
      | exact ih0 _ _ _ _ _ _ _ _
      | exact ih1 _ _ _ _ _ _ _ _ _
      | exact portreeveref11_Has.mono _ _ _
      | exact portreeveref11_Next.mono _ _ _
      | exact LeO.none _
      | refine LeO.ite ?_ ?_
      | refine LeO.bind ?_ (fun _ => ?_)
set_option maxHeartbeats 8000000 in
set_option maxRecDepth 100000 in
theorem portreeveref12_Do.calls (k : Nat) (a0_0 : Int) (a0_1 : Int) (a0_2 : Int) (a0_3 : Int) (a1 : Int) (r1 : Int) (r2 : Int) (r3 : Int) (r4 : Int) (r5 : List Int) (r6 : Int) (w : World) (h : portreeveref12_Do.f k a0_0 a0_1 a0_2 a0_3 a1 = some (r1, r2, r3, r4, r5, r6)) :
    Calls Tryd.prog 14 #[.agg #[.int .i64 a0_0, .int .i64 a0_1, .int .i64 a0_2, .int .u8 a0_3], .int .i64 a1] w fun e w' => ∃ v4_ : Value, e = .returned (.tuple #[.agg #[.int .i64 r1, .int .i64 r2, .int .i64 r3, .int .u8 r4], v4_, .int .i64 r6]) ∧ Kd.V (Kd.int .i64) 3 w' w.heap.size (fun k_ => (w.heap.size ≤ k_)) v4_ r5 ∧ Below w.heap.size w w' := by
  have hu23 := Tryd.underlying23
  have HB := Aside0.mk (Below.refl w.heap.size w)
  have H : ((portreeveref11_Next.f k a0_0 a1).bind fun bt620 => (if bt620.2.2 = true then ((portreeveref11_Has.f k bt620.1 10).bind fun t625 => (portreeveref12_Do.l0 k bt620.1 bt620.2.1 t625 0 a0_0 a0_1 a0_2 a0_3)) else (some (a0_0, a0_1, a0_2, a0_3, ([] : List Int), 1)))) = some (r1, r2, r3, r4, r5, r6) := h
  clear h
  replace H := Option.bind_eq_some_iff.mp H
  obtain ⟨⟨t620, t623, t624⟩, A30, H⟩ := H
  replace H : (if t624 = true then ((portreeveref11_Has.f k t620 10).bind fun t625 => (portreeveref12_Do.l0 k t620 t623 t625 0 a0_0 a0_1 a0_2 a0_3)) else (some (a0_0, a0_1, a0_2, a0_3, ([] : List Int), 1))) = some (r1, r2, r3, r4, r5, r6) := H
  have A3 := Aside0.mk A30
  clear A30
  by_cases c4 : t624 = true
  · subst c4
    have H1 : ((portreeveref11_Has.f k t620 10).bind fun t625 => (portreeveref12_Do.l0 k t620 t623 t625 0 a0_0 a0_1 a0_2 a0_3)) = some (r1, r2, r3, r4, r5, r6) := by rw [if_pos rfl] at H; exact H
    clear H
    have H := H1
    clear H1
    replace H := Option.bind_eq_some_iff.mp H
    obtain ⟨t625, A50, H⟩ := H
    replace H : (portreeveref12_Do.l0 k t620 t623 t625 0 a0_0 a0_1 a0_2 a0_3) = some (r1, r2, r3, r4, r5, r6) := H
    have A5 := Aside0.mk A50
    clear A50
    have H' := Aside0.mk H
    clear H
    go_enter Tryd.func14, Tryd.ntmps14
    go_wp2_with (first | ((with_reducible refine gate_dst (N := 2) rfl ?_); refine box_event ?hg (N := 2) ?hd (cs := #[.int .i64 a0_0, .int .i64 a0_1, .int .i64 a0_2, .int .u8 a0_3]) (t := 23) ?hr ?_; (case hd => rfl); (case hg => rfl); (case hr => first | (go_simp; done) | (go_simp; rfl)); intro gb618 hg w6 hbox hb; have n0_ := Aside0.mk (below_step (by repeat (first | (with_reducible first | exact HB.out | apply pA | apply pN | apply pD) | exact HB.out)) hb); have n1_ := Aside0.mk (hbox); have n2_ := Aside0.mk ((by rw [hg]; exact (below_size (by repeat (first | (with_reducible first | exact HB.out | apply pA | apply pN | apply pD) | exact HB.out))) : w.heap.size ≤ gb618)); have n3_ := Aside0.mk ((by rw [hg]; exact (below_size (by repeat (first | (with_reducible first | exact HB.out | apply pA | apply pN | apply pD) | exact HB.out))) : w.heap.size ≤ gb618)); clear HB; have HB := n0_; have BK618 := n1_; have GW618 := n2_; have GE618 := n3_; clear n0_ n1_ n2_ n3_; clear hb hbox hg) | ((with_reducible refine gate_dst (N := 4) rfl ?_); refine box_event ?hg (N := 4) ?hd (cs := #[.int .i64 0, .int .i64 0, .int .i64 0, .int .u8 0]) (t := 23) ?hr ?_; (case hd => rfl); (case hg => rfl); (case hr => first | (go_simp; done) | (go_simp; rfl)); intro gb619 hg w7 hbox hb; have n0_ := Aside0.mk (blk_below (g := gb618) (o := .cells #[.int .i64 a0_0, .int .i64 a0_1, .int .i64 a0_2, .int .u8 a0_3] 23 (0, 0)) (by (with_reducible repeat (first | refine qN ?_ _ | refine qD ?_ | refine qA ?_ _)); exact BK618.out) hb); have n1_ := Aside0.mk (below_step (by repeat (first | (with_reducible first | exact HB.out | apply pA | apply pN | apply pD | refine pS ?_ GE618.out) | exact HB.out)) hb); have n2_ := Aside0.mk (hbox); have n3_ := Aside0.mk ((by rw [hg]; exact (below_size (by repeat (first | (with_reducible first | exact HB.out | apply pA | apply pN | apply pD | refine pS ?_ GE618.out) | exact HB.out))) : w.heap.size ≤ gb619)); have n4_ := Aside0.mk ((by rw [hg]; exact (below_size (by repeat (first | (with_reducible first | exact HB.out | apply pA | apply pN | apply pD | refine pS ?_ GE618.out) | exact HB.out))) : w.heap.size ≤ gb619)); have n5_ := Aside0.mk ((by rw [hg]; exact Nat.ne_of_lt (blk_lt (g := gb618) (o := .cells #[.int .i64 a0_0, .int .i64 a0_1, .int .i64 a0_2, .int .u8 a0_3] 23 (0, 0)) (by (with_reducible repeat (first | refine qN ?_ _ | refine qD ?_ | refine qA ?_ _)); exact BK618.out)) : gb618 ≠ gb619)); have n6_ := Aside0.mk ((by rw [hg]; exact Nat.ne_of_gt (blk_lt (g := gb618) (o := .cells #[.int .i64 a0_0, .int .i64 a0_1, .int .i64 a0_2, .int .u8 a0_3] 23 (0, 0)) (by (with_reducible repeat (first | refine qN ?_ _ | refine qD ?_ | refine qA ?_ _)); exact BK618.out)) : gb619 ≠ gb618)); clear BK618; clear HB; have BK618 := n0_; have HB := n1_; have BK619 := n2_; have GW619 := n3_; have GE619 := n4_; have NB618_619 := n5_; have NB619_618 := n6_; clear n0_ n1_ n2_ n3_ n4_ n5_ n6_; clear hb hbox hg; have hnb8 := NB618_619.out; have hnc8 := NB619_618.out; have hcz9_0 : w7.cell? ⟨gb618, 0, none⟩ = some (.int .i64 a0_0) := (blk_cell BK618.out 0).trans rfl; have hcz9_1 : w7.cell? ⟨gb618, 1, none⟩ = some (.int .i64 a0_1) := (blk_cell BK618.out 1).trans rfl; have hcz9_2 : w7.cell? ⟨gb618, 2, none⟩ = some (.int .i64 a0_2) := (blk_cell BK618.out 2).trans rfl; have hcz9_3 : w7.cell? ⟨gb618, 3, none⟩ = some (.int .u8 a0_3) := (blk_cell BK618.out 3).trans rfl; have hfz9_0 := blk_frozen BK618.out 0; have hfz9_1 := blk_frozen BK618.out 1; have hfz9_2 := blk_frozen BK618.out 2; have hfz9_3 := blk_frozen BK618.out 3) | ((with_reducible refine gate_callee (f := 27) rfl ?_); refine goesL_ (some 17) rfl rfl Tryd.func27 (by kernel_rfl) rfl #[.int .i64 a0_0, .int .i64 a1] rfl (by (try simp only [List.map_toArray, List.map_cons, List.map_nil]); first | done | rfl | (simp only [List.length_drop, List.length_take]; rfl)) ?_; (with_reducible refine (portreeveref11_Next.calls k a0_0 a1 t620 t623 true _ A3.out).mono ?_); rintro e w10 ⟨v621, rfl, ho0, hb⟩; refine ⟨_, rfl, ?_⟩; have n0_ := Aside0.mk (Kd.V_lower (Kd.V_mono (ok' := fun k_ => (w.heap.size ≤ k_) ∧ k_ ≠ gb618 ∧ k_ ≠ gb619) ho0 (fun k_ hk_ => ⟨(Nat.le_trans (below_size (by repeat (first | (with_reducible first | exact HB.out | apply pA | apply pN | apply pD | refine pS ?_ GE618.out | refine pS ?_ GE619.out) | exact HB.out))) hk_), (Kd.freshB (g := gb618) (o := .cells #[.int .i64 a0_0, .int .i64 a0_1, .int .i64 a0_2, .int .u8 a0_3] 23 (0, 0)) (by (with_reducible repeat (first | refine qN ?_ _ | refine qD ?_ | refine qA ?_ _)); exact BK618.out) k_ hk_), (Kd.freshB (g := gb619) (o := .cells #[.int .i64 0, .int .i64 0, .int .i64 0, .int .u8 0] 23 (0, 0)) (by (with_reducible repeat (first | refine qN ?_ _ | refine qD ?_ | refine qA ?_ _)); exact BK619.out) k_ hk_)⟩)) (below_size (by repeat (first | (with_reducible first | exact HB.out | apply pA | apply pN | apply pD | refine pS ?_ GE618.out | refine pS ?_ GE619.out) | exact HB.out)))); have n1_ := Aside0.mk (blk_below (g := gb618) (o := .cells #[.int .i64 a0_0, .int .i64 a0_1, .int .i64 a0_2, .int .u8 a0_3] 23 (0, 0)) (by (with_reducible repeat (first | refine qN ?_ _ | refine qD ?_ | refine qA ?_ _)); exact BK618.out) hb); have n2_ := Aside0.mk (blk_below (g := gb619) (o := .cells #[.int .i64 0, .int .i64 0, .int .i64 0, .int .u8 0] 23 (0, 0)) (by (with_reducible repeat (first | refine qN ?_ _ | refine qD ?_ | refine qA ?_ _)); exact BK619.out) hb); have n3_ := Aside0.mk (below_step (by repeat (first | (with_reducible first | exact HB.out | apply pA | apply pN | apply pD | refine pS ?_ GE618.out | refine pS ?_ GE619.out) | exact HB.out)) hb); clear BK618; clear BK619; clear HB; have HO622 := n0_; have BK618 := n1_; have BK619 := n2_; have HB := n3_; clear n0_ n1_ n2_ n3_; (try clear hb); (try clear hb2); (try clear hk); (try clear hi); (try clear ho0); obtain ⟨Ao11, co11, eo11⟩ := Kd.V_slice HO622.out; subst eo11) | ((with_reducible refine gate_callee (f := 20) rfl ?_); refine goesL_ (some 25) rfl rfl Tryd.func20 (by kernel_rfl) rfl #[.slice Ao11 t620.length co11, .int .i64 10] rfl (by (try simp only [List.map_toArray, List.map_cons, List.map_nil]); first | done | rfl | (simp only [List.length_drop, List.length_take]; rfl)) ?_; (with_reducible refine (portreeveref11_Has.calls k _ _ t620 10 t625 _ ?side1 ?side2 A5.out).mono ?_); (case side1 => repeat (first | exact (Kd.V_reads' HO622.out).2.2 | (with_reducible refine Kd.C_alloc ?_ _) | (with_reducible refine Kd.C_drewN ?_ _) | (with_reducible refine Kd.C_drew ?_))); (case side2 => exact (Kd.V_reads' HO622.out).2.1); rintro e w' ⟨rfl, ⟨nd, rfl⟩⟩; refine ⟨_, rfl, ?_⟩))
    go_loopg [11] k (fun kq v11 w' => ∃ (x11_1 : Int) (x619001_1 : Int) (x619002_1 : Int) (x619003_1 : Int), v11 = .int .i64 x11_1 ∧ Aside0 (portreeveref12_Do.l0 kq t620 t623 t625 x11_1 a0_0 x619001_1 x619002_1 x619003_1 = some (r1, r2, r3, r4, r5, r6)) ∧ Aside0 (kq ≤ k) ∧ Aside0 (Kd.V (Kd.int .i64) 3 w' w.heap.size (fun k_ => (w.heap.size ≤ k_) ∧ k_ ≠ gb618 ∧ k_ ≠ gb619) (.slice Ao11 t620.length co11) t620) ∧ Aside0 (w'.heap[gb618]? = some (.cells #[.int .i64 a0_0, .int .i64 x619001_1, .int .i64 x619002_1, .int .u8 x619003_1] 23 (0, 0))) ∧ Aside0 (w'.heap[gb619]? = some (.cells #[.int .i64 0, .int .i64 0, .int .i64 0, .int .u8 0] 23 (0, 0))) ∧ Aside0 (Below w.heap.size w w'))
    case atStart => exact ⟨(0), (a0_1), (a0_2), (a0_3), (by first | rfl | (simp; done) | (simp [*]; done)), H', ⟨Nat.le_refl _⟩, ⟨by (with_reducible repeat (first | apply Kd.V_alloc | apply Kd.V_drewN | apply Kd.V_drew)); exact HO622.out⟩, ⟨by (with_reducible repeat (first | refine qN ?_ _ | refine qD ?_ | refine qA ?_ _)); exact BK618.out⟩, ⟨by (with_reducible repeat (first | refine qN ?_ _ | refine qD ?_ | refine qA ?_ _)); exact BK619.out⟩, ⟨by repeat (first | (with_reducible first | exact HB.out | apply pA | apply pN | apply pD | refine pS ?_ GE618.out | refine pS ?_ GE619.out) | exact HB.out)⟩⟩
    case round =>
      clear H'
      try clear c1
      try clear c2
      try clear p2
      try clear c4
      try clear c8
      try clear hcz9_0
      try clear hcz9_1
      try clear hcz9_2
      try clear hcz9_3
      try clear hfz9_0
      try clear hfz9_1
      try clear hfz9_2
      try clear hfz9_3
      obtain ⟨x11_1, x619001_1, x619002_1, x619003_1, rfl, HA, HK1, HO_7, BK618, BK619, HB⟩ := hrel
      cases gk with
      | zero => exact absurd HA.out (by simp [portreeveref12_Do.l0])
      | succ k1 =>
        have H := HA.out
        clear HA
        simp only [portreeveref12_Do.l0] at H
        by_cases c12 : x11_1 < (t620.length : Int)
        · rw [if_pos c12] at H
          have c12b0 : decide (x11_1 < (t620.length : Int)) = true := decide_eq_true c12
          clear c12
          by_cases c13 : 0 ≤ x11_1
          · rw [if_pos c13] at H
            have c13b0 : decide (0 ≤ x11_1) = true := decide_eq_true c13
            clear c13
            by_cases c14 : (rd t620 x11_1) = 5
            · rw [if_pos c14] at H
              have c14b0 : ((rd t620 x11_1) == 5) = true := beq_iff_eq.mpr c14
              have c14b1 : ((rd t620 x11_1) != 5) = false := bne_eq_false_iff_eq.mpr c14
              clear c14
              by_cases c15 : t625 = true
              · subst c15
                have H1 : (portreeveref12_Do.l0 k1 t620 t623 true (wrap64 (x11_1 + 1)) a0_0 2 x619002_1 x619003_1) = some (r1, r2, r3, r4, r5, r6) := by rw [if_pos rfl] at H; exact H
                clear H
                have H := H1
                clear H1
                have H' := Aside0.mk H
                clear H
                have p626 : 0 ≤ (x11_1 : Int) := of_decide_eq_true (by first | (with_reducible assumption) | assumption)
                have q626 : x11_1 < (t620.length : Int) := of_decide_eq_true (by first | (with_reducible assumption) | assumption)
                obtain ⟨ad626, e626, hx626_0⟩ := Kd.at_int (Kd.V_reads' HO_7.out).2.2 x11_1 p626 q626
                cases e626
                replace p626 := eq_true p626
                replace q626 := eq_true q626
                have hnb16 := NB618_619.out
                have hnc16 := NB619_618.out
                have hcz17_0 : wr.cell? ⟨gb618, 0, none⟩ = some (.int .i64 a0_0) := (blk_cell BK618.out 0).trans rfl
                have hcz17_1 : wr.cell? ⟨gb618, 1, none⟩ = some (.int .i64 x619001_1) := (blk_cell BK618.out 1).trans rfl
                have hcz17_2 : wr.cell? ⟨gb618, 2, none⟩ = some (.int .i64 x619002_1) := (blk_cell BK618.out 2).trans rfl
                have hcz17_3 : wr.cell? ⟨gb618, 3, none⟩ = some (.int .u8 x619003_1) := (blk_cell BK618.out 3).trans rfl
                have hfz17_0 := blk_frozen BK618.out 0
                have hfz17_1 := blk_frozen BK618.out 1
                have hfz17_2 := blk_frozen BK618.out 2
                have hfz17_3 := blk_frozen BK618.out 3
                go_wp2
                go_roundg k1
                case measure => have := HK1.out; omega
                case rel => exact ⟨(wrap64 (x11_1 + 1)), (2), (x619002_1), (x619003_1), (by first | rfl | (simp; done) | (simp [*]; done)), H', ⟨by have := HK1.out; omega⟩, ⟨by (with_reducible repeat (first | apply Kd.V_alloc | apply Kd.V_drewN | apply Kd.V_drew)); exact Kd.V_mono (Kd.V_far (p := ⟨gb618, 1, none⟩) (Kd.V_far (p := ⟨gb618, 1, none⟩) (Kd.V_mono HO_7.out (fun k_ hk => (⟨hk, hk.2.1⟩ : _ ∧ k_ ≠ gb618))) (fun _ hk => hk.2) (.int .i64 5)) (fun _ hk => hk.2) (.int .i64 2)) (fun _ hk => ⟨hk.1.1, ⟨hk.1.2.1, hk.1.2.2⟩⟩)⟩, ⟨by (with_reducible repeat (first | refine qN ?_ _ | refine qD ?_ | refine qA ?_ _)); refine blk_put (cs := #[.int .i64 a0_0, .int .i64 5, .int .i64 x619002_1, .int .u8 x619003_1]) ?_ 1 _ rfl; (with_reducible repeat (first | refine qN ?_ _ | refine qD ?_ | refine qA ?_ _)); refine blk_put (cs := #[.int .i64 a0_0, .int .i64 x619001_1, .int .i64 x619002_1, .int .u8 x619003_1]) ?_ 1 _ rfl; (with_reducible repeat (first | refine qN ?_ _ | refine qD ?_ | refine qA ?_ _)); exact BK618.out⟩, ⟨by (with_reducible repeat (first | refine qN ?_ _ | refine qD ?_ | refine qA ?_ _)); refine blk_far ?_ NB619_618.out _; (with_reducible repeat (first | refine qN ?_ _ | refine qD ?_ | refine qA ?_ _)); refine blk_far ?_ NB619_618.out _; (with_reducible repeat (first | refine qN ?_ _ | refine qD ?_ | refine qA ?_ _)); exact BK619.out⟩, ⟨by repeat (first | (with_reducible first | exact HB.out | apply pA | apply pN | apply pD | refine pS ?_ GE618.out | refine pS ?_ GE619.out) | exact HB.out)⟩⟩
              · replace c15 := Bool.eq_false_iff.mpr c15
                subst c15
                have H1 : (portreeveref12_Do.l0 k1 t620 t623 false (wrap64 (x11_1 + 1)) a0_0 5 x619002_1 x619003_1) = some (r1, r2, r3, r4, r5, r6) := by rw [if_neg (show ¬ (false = true) by decide)] at H; exact H
                clear H
                have H := H1
                clear H1
                have H' := Aside0.mk H
                clear H
                have p626 : 0 ≤ (x11_1 : Int) := of_decide_eq_true (by first | (with_reducible assumption) | assumption)
                have q626 : x11_1 < (t620.length : Int) := of_decide_eq_true (by first | (with_reducible assumption) | assumption)
                obtain ⟨ad626, e626, hx626_0⟩ := Kd.at_int (Kd.V_reads' HO_7.out).2.2 x11_1 p626 q626
                cases e626
                replace p626 := eq_true p626
                replace q626 := eq_true q626
                have hnb18 := NB618_619.out
                have hnc18 := NB619_618.out
                have hcz19_0 : wr.cell? ⟨gb618, 0, none⟩ = some (.int .i64 a0_0) := (blk_cell BK618.out 0).trans rfl
                have hcz19_1 : wr.cell? ⟨gb618, 1, none⟩ = some (.int .i64 x619001_1) := (blk_cell BK618.out 1).trans rfl
                have hcz19_2 : wr.cell? ⟨gb618, 2, none⟩ = some (.int .i64 x619002_1) := (blk_cell BK618.out 2).trans rfl
                have hcz19_3 : wr.cell? ⟨gb618, 3, none⟩ = some (.int .u8 x619003_1) := (blk_cell BK618.out 3).trans rfl
                have hfz19_0 := blk_frozen BK618.out 0
                have hfz19_1 := blk_frozen BK618.out 1
                have hfz19_2 := blk_frozen BK618.out 2
                have hfz19_3 := blk_frozen BK618.out 3
                go_wp2
                go_roundg k1
                case measure => have := HK1.out; omega
                case rel => exact ⟨(wrap64 (x11_1 + 1)), (5), (x619002_1), (x619003_1), (by first | rfl | (simp; done) | (simp [*]; done)), H', ⟨by have := HK1.out; omega⟩, ⟨by (with_reducible repeat (first | apply Kd.V_alloc | apply Kd.V_drewN | apply Kd.V_drew)); exact Kd.V_mono (Kd.V_far (p := ⟨gb618, 1, none⟩) (Kd.V_mono HO_7.out (fun k_ hk => (⟨hk, hk.2.1⟩ : _ ∧ k_ ≠ gb618))) (fun _ hk => hk.2) (.int .i64 5)) (fun _ hk => ⟨hk.1.1, ⟨hk.1.2.1, hk.1.2.2⟩⟩)⟩, ⟨by (with_reducible repeat (first | refine qN ?_ _ | refine qD ?_ | refine qA ?_ _)); refine blk_put (cs := #[.int .i64 a0_0, .int .i64 x619001_1, .int .i64 x619002_1, .int .u8 x619003_1]) ?_ 1 _ rfl; (with_reducible repeat (first | refine qN ?_ _ | refine qD ?_ | refine qA ?_ _)); exact BK618.out⟩, ⟨by (with_reducible repeat (first | refine qN ?_ _ | refine qD ?_ | refine qA ?_ _)); refine blk_far ?_ NB619_618.out _; (with_reducible repeat (first | refine qN ?_ _ | refine qD ?_ | refine qA ?_ _)); exact BK619.out⟩, ⟨by repeat (first | (with_reducible first | exact HB.out | apply pA | apply pN | apply pD | refine pS ?_ GE618.out | refine pS ?_ GE619.out) | exact HB.out)⟩⟩
            · rw [if_neg c14] at H
              have c14b0 : ((rd t620 x11_1) == 5) = false := beq_eq_false_iff_ne.mpr c14
              have c14b1 : ((rd t620 x11_1) != 5) = true := bne_iff_ne.mpr c14
              by_cases c20 : (rd t620 x11_1) = 6
              · rw [if_pos c20] at H
                have c20b0 : ((rd t620 x11_1) == 6) = true := beq_iff_eq.mpr c20
                have c20b1 : ((rd t620 x11_1) != 6) = false := bne_eq_false_iff_eq.mpr c20
                clear c20
                have H' := Aside0.mk H
                clear H
                have p626 : 0 ≤ (x11_1 : Int) := of_decide_eq_true (by first | (with_reducible assumption) | assumption)
                have q626 : x11_1 < (t620.length : Int) := of_decide_eq_true (by first | (with_reducible assumption) | assumption)
                obtain ⟨ad626, e626, hx626_0⟩ := Kd.at_int (Kd.V_reads' HO_7.out).2.2 x11_1 p626 q626
                cases e626
                replace p626 := eq_true p626
                replace q626 := eq_true q626
                have hnb21 := NB618_619.out
                have hnc21 := NB619_618.out
                have hcz22_0 : wr.cell? ⟨gb618, 0, none⟩ = some (.int .i64 a0_0) := (blk_cell BK618.out 0).trans rfl
                have hcz22_1 : wr.cell? ⟨gb618, 1, none⟩ = some (.int .i64 x619001_1) := (blk_cell BK618.out 1).trans rfl
                have hcz22_2 : wr.cell? ⟨gb618, 2, none⟩ = some (.int .i64 x619002_1) := (blk_cell BK618.out 2).trans rfl
                have hcz22_3 : wr.cell? ⟨gb618, 3, none⟩ = some (.int .u8 x619003_1) := (blk_cell BK618.out 3).trans rfl
                have hfz22_0 := blk_frozen BK618.out 0
                have hfz22_1 := blk_frozen BK618.out 1
                have hfz22_2 := blk_frozen BK618.out 2
                have hfz22_3 := blk_frozen BK618.out 3
                go_wp2
                go_roundg k1
                case measure => have := HK1.out; omega
                case rel => exact ⟨(wrap64 (x11_1 + 1)), (0), (3), (x619003_1), (by first | rfl | (simp; done) | (simp [*]; done)), H', ⟨by have := HK1.out; omega⟩, ⟨by (with_reducible repeat (first | apply Kd.V_alloc | apply Kd.V_drewN | apply Kd.V_drew)); exact Kd.V_mono (Kd.V_far (p := ⟨gb618, 2, none⟩) (Kd.V_far (p := ⟨gb618, 1, none⟩) (Kd.V_mono HO_7.out (fun k_ hk => (⟨hk, hk.2.1⟩ : _ ∧ k_ ≠ gb618))) (fun _ hk => hk.2) (.int .i64 0)) (fun _ hk => hk.2) (.int .i64 3)) (fun _ hk => ⟨hk.1.1, ⟨hk.1.2.1, hk.1.2.2⟩⟩)⟩, ⟨by (with_reducible repeat (first | refine qN ?_ _ | refine qD ?_ | refine qA ?_ _)); refine blk_put (cs := #[.int .i64 a0_0, .int .i64 0, .int .i64 x619002_1, .int .u8 x619003_1]) ?_ 2 _ rfl; (with_reducible repeat (first | refine qN ?_ _ | refine qD ?_ | refine qA ?_ _)); refine blk_put (cs := #[.int .i64 a0_0, .int .i64 x619001_1, .int .i64 x619002_1, .int .u8 x619003_1]) ?_ 1 _ rfl; (with_reducible repeat (first | refine qN ?_ _ | refine qD ?_ | refine qA ?_ _)); exact BK618.out⟩, ⟨by (with_reducible repeat (first | refine qN ?_ _ | refine qD ?_ | refine qA ?_ _)); refine blk_far ?_ NB619_618.out _; (with_reducible repeat (first | refine qN ?_ _ | refine qD ?_ | refine qA ?_ _)); refine blk_far ?_ NB619_618.out _; (with_reducible repeat (first | refine qN ?_ _ | refine qD ?_ | refine qA ?_ _)); exact BK619.out⟩, ⟨by repeat (first | (with_reducible first | exact HB.out | apply pA | apply pN | apply pD | refine pS ?_ GE618.out | refine pS ?_ GE619.out) | exact HB.out)⟩⟩
              · rw [if_neg c20] at H
                have c20b0 : ((rd t620 x11_1) == 6) = false := beq_eq_false_iff_ne.mpr c20
                have c20b1 : ((rd t620 x11_1) != 6) = true := bne_iff_ne.mpr c20
                have HC23 := Aside0.mk H
                clear H
                have p626 : 0 ≤ (x11_1 : Int) := of_decide_eq_true (by first | (with_reducible assumption) | assumption)
                have q626 : x11_1 < (t620.length : Int) := of_decide_eq_true (by first | (with_reducible assumption) | assumption)
                obtain ⟨ad626, e626, hx626_0⟩ := Kd.at_int (Kd.V_reads' HO_7.out).2.2 x11_1 p626 q626
                cases e626
                replace p626 := eq_true p626
                replace q626 := eq_true q626
                go_upto_if 45 with (fail)
                go_cut [45] (fun v45 wc => ∃ (kq : Nat) (x45_22 : Bool), v45 = .bool x45_22 ∧ Aside0 (portreeveref12_Do.j1 kq t620 t623 t625 x11_1 x45_22 a0_0 x619001_1 x619002_1 x619003_1 = some (r1, r2, r3, r4, r5, r6)) ∧ Aside0 (kq ≤ k1) ∧ Aside0 (Kd.V (Kd.int .i64) 3 wc w.heap.size (fun k_ => (w.heap.size ≤ k_) ∧ k_ ≠ gb618 ∧ k_ ≠ gb619) (.slice (some ad626) t620.length co11) t620) ∧ Aside0 (wc.heap[gb618]? = some (.cells #[.int .i64 a0_0, .int .i64 x619001_1, .int .i64 x619002_1, .int .u8 x619003_1] 23 (0, 0))) ∧ Aside0 (wc.heap[gb619]? = some (.cells #[.int .i64 0, .int .i64 0, .int .i64 0, .int .u8 0] 23 (0, 0))) ∧ Aside0 (Below w.heap.size w wc))
                case first =>
                  have H := HC23.out
                  clear HC23
                  by_cases c24 : (rd t620 x11_1) = 7
                  · rw [if_pos c24] at H
                    have c24b0 : ((rd t620 x11_1) == 7) = true := beq_iff_eq.mpr c24
                    have c24b1 : ((rd t620 x11_1) != 7) = false := bne_eq_false_iff_eq.mpr c24
                    clear c24
                    (first | rw [c24b0] | (simp only [i64_w, i32_w]; rw [c24b0]) | skip)
                    have H' := Aside0.mk H
                    clear H
                    go_wp2
                    go_meet
                    case rel => exact ⟨_, (((rd t620 x11_1) == 7)), (by first | rfl | (simp; done) | (simp [*]; done)), H', ⟨by have := HK1.out; first | omega | exact Nat.le_refl _⟩, ⟨by (with_reducible repeat (first | apply Kd.V_alloc | apply Kd.V_drewN | apply Kd.V_drew)); exact HO_7.out⟩, ⟨by (with_reducible repeat (first | refine qN ?_ _ | refine qD ?_ | refine qA ?_ _)); exact BK618.out⟩, ⟨by (with_reducible repeat (first | refine qN ?_ _ | refine qD ?_ | refine qA ?_ _)); exact BK619.out⟩, ⟨by repeat (first | (with_reducible first | exact HB.out | apply pA | apply pN | apply pD | refine pS ?_ GE618.out | refine pS ?_ GE619.out) | exact HB.out)⟩⟩
                  · rw [if_neg c24] at H
                    have c24b0 : ((rd t620 x11_1) == 7) = false := beq_eq_false_iff_ne.mpr c24
                    have c24b1 : ((rd t620 x11_1) != 7) = true := bne_iff_ne.mpr c24
                    (first | rw [c24b0] | (simp only [i64_w, i32_w]; rw [c24b0]) | skip)
                    have H' := Aside0.mk H
                    clear H
                    go_wp2
                    go_meet
                    case rel => exact ⟨_, (((rd t620 x11_1) == 10)), (by first | rfl | (simp; done) | (simp [*]; done)), H', ⟨by have := HK1.out; first | omega | exact Nat.le_refl _⟩, ⟨by (with_reducible repeat (first | apply Kd.V_alloc | apply Kd.V_drewN | apply Kd.V_drew)); exact HO_7.out⟩, ⟨by (with_reducible repeat (first | refine qN ?_ _ | refine qD ?_ | refine qA ?_ _)); exact BK618.out⟩, ⟨by (with_reducible repeat (first | refine qN ?_ _ | refine qD ?_ | refine qA ?_ _)); exact BK619.out⟩, ⟨by repeat (first | (with_reducible first | exact HB.out | apply pA | apply pN | apply pD | refine pS ?_ GE618.out | refine pS ?_ GE619.out) | exact HB.out)⟩⟩
                case rest =>
                  clear HC23
                  try clear c1
                  try clear c2
                  try clear p2
                  try clear c4
                  try clear p6
                  try clear q6
                  try clear hx6
                  try clear c8
                  try clear c12
                  try clear c12b0
                  try clear c13
                  try clear c13b0
                  try clear c14
                  try clear c14b0
                  try clear c14b1
                  try clear c15
                  try clear c16
                  try clear c18
                  try clear c20
                  try clear c20b0
                  try clear c20b1
                  try clear c21
                  try clear c24
                  try clear c24b0
                  try clear c24b1
                  try clear hcz17_0
                  try clear hcz17_1
                  try clear hcz17_2
                  try clear hcz17_3
                  try clear hcz19_0
                  try clear hcz19_1
                  try clear hcz19_2
                  try clear hcz19_3
                  try clear hcz22_0
                  try clear hcz22_1
                  try clear hcz22_2
                  try clear hcz22_3
                  try clear hcz9_0
                  try clear hcz9_1
                  try clear hcz9_2
                  try clear hcz9_3
                  try clear hfz17_0
                  try clear hfz17_1
                  try clear hfz17_2
                  try clear hfz17_3
                  try clear hfz19_0
                  try clear hfz19_1
                  try clear hfz19_2
                  try clear hfz19_3
                  try clear hfz22_0
                  try clear hfz22_1
                  try clear hfz22_2
                  try clear hfz22_3
                  try clear hfz9_0
                  try clear hfz9_1
                  try clear hfz9_2
                  try clear hfz9_3
                  try clear hx626_0
                  try clear p2
                  try clear p626
                  try clear q626
                  obtain ⟨kq, x45_22, rfl, HA, HJ22, HO_7, BK618, BK619, HB⟩ := hcut
                  cases kq with
                  | zero => exact absurd HA.out (by simp [portreeveref12_Do.j1])
                  | succ kj22 =>
                    have H := HA.out
                    clear HA
                    simp only [portreeveref12_Do.j1] at H
                    by_cases c25 : x45_22 = true
                    · subst c25
                      have H1 : (portreeveref12_Do.l0 kj22 t620 t623 t625 (wrap64 (x11_1 + 1)) a0_0 (mx 0 (wrap64 (x619001_1 - 1))) 3 ((x619003_1 + 1) % 256)) = some (r1, r2, r3, r4, r5, r6) := by rw [if_pos rfl] at H; exact H
                      clear H
                      have H := H1
                      clear H1
                      obtain ⟨ji26, hji26⟩ : ∃ j_ : Int, (mx 0 (wrap64 (x619001_1 - 1))) = j_ := ⟨_, rfl⟩
                      replace H : (portreeveref12_Do.l0 kj22 t620 t623 t625 (wrap64 (x11_1 + 1)) a0_0 ji26 3 ((x619003_1 + 1) % 256)) = some (r1, r2, r3, r4, r5, r6) := by first | (rw [hji26] at H; exact H) | (simp only [hji26] at H ⊢; exact H)
                      have hji26_ : (if 0 < (wrap64 (x619001_1 - 1)) then (wrap64 (x619001_1 - 1)) else 0) = ji26 := hji26
                      have H' := Aside0.mk H
                      clear H
                      have hnb27 := NB618_619.out
                      have hnc27 := NB619_618.out
                      have hcz28_0 : wc.cell? ⟨gb618, 0, none⟩ = some (.int .i64 a0_0) := (blk_cell BK618.out 0).trans rfl
                      have hcz28_1 : wc.cell? ⟨gb618, 1, none⟩ = some (.int .i64 x619001_1) := (blk_cell BK618.out 1).trans rfl
                      have hcz28_2 : wc.cell? ⟨gb618, 2, none⟩ = some (.int .i64 x619002_1) := (blk_cell BK618.out 2).trans rfl
                      have hcz28_3 : wc.cell? ⟨gb618, 3, none⟩ = some (.int .u8 x619003_1) := (blk_cell BK618.out 3).trans rfl
                      have hfz28_0 := blk_frozen BK618.out 0
                      have hfz28_1 := blk_frozen BK618.out 1
                      have hfz28_2 := blk_frozen BK618.out 2
                      have hfz28_3 := blk_frozen BK618.out 3
                      go_wp2
                      go_roundg kj22
                      case measure => have := HK1.out; have := HJ22.out; omega
                      case rel => exact ⟨(wrap64 (x11_1 + 1)), (ji26), (3), ((x619003_1 + 1) % 256), (by first | rfl | (simp; done) | (simp [*]; done)), H', ⟨by have := HK1.out; have := HJ22.out; omega⟩, ⟨by (with_reducible repeat (first | apply Kd.V_alloc | apply Kd.V_drewN | apply Kd.V_drew)); exact Kd.V_mono (Kd.V_far (p := ⟨gb618, 3, none⟩) (Kd.V_far (p := ⟨gb618, 2, none⟩) (Kd.V_far (p := ⟨gb618, 1, none⟩) (Kd.V_mono HO_7.out (fun k_ hk => (⟨hk, hk.2.1⟩ : _ ∧ k_ ≠ gb618))) (fun _ hk => hk.2) (.int .i64 ji26)) (fun _ hk => hk.2) (.int .i64 3)) (fun _ hk => hk.2) (.int .u8 ((x619003_1 + 1) % 256))) (fun _ hk => ⟨hk.1.1, ⟨hk.1.2.1, hk.1.2.2⟩⟩)⟩, ⟨by (with_reducible repeat (first | refine qN ?_ _ | refine qD ?_ | refine qA ?_ _)); refine blk_put (cs := #[.int .i64 a0_0, .int .i64 ji26, .int .i64 3, .int .u8 x619003_1]) ?_ 3 _ rfl; (with_reducible repeat (first | refine qN ?_ _ | refine qD ?_ | refine qA ?_ _)); refine blk_put (cs := #[.int .i64 a0_0, .int .i64 ji26, .int .i64 x619002_1, .int .u8 x619003_1]) ?_ 2 _ rfl; (with_reducible repeat (first | refine qN ?_ _ | refine qD ?_ | refine qA ?_ _)); refine blk_put (cs := #[.int .i64 a0_0, .int .i64 x619001_1, .int .i64 x619002_1, .int .u8 x619003_1]) ?_ 1 _ rfl; (with_reducible repeat (first | refine qN ?_ _ | refine qD ?_ | refine qA ?_ _)); exact BK618.out⟩, ⟨by (with_reducible repeat (first | refine qN ?_ _ | refine qD ?_ | refine qA ?_ _)); refine blk_far ?_ NB619_618.out _; (with_reducible repeat (first | refine qN ?_ _ | refine qD ?_ | refine qA ?_ _)); refine blk_far ?_ NB619_618.out _; (with_reducible repeat (first | refine qN ?_ _ | refine qD ?_ | refine qA ?_ _)); refine blk_far ?_ NB619_618.out _; (with_reducible repeat (first | refine qN ?_ _ | refine qD ?_ | refine qA ?_ _)); exact BK619.out⟩, ⟨by repeat (first | (with_reducible first | exact HB.out | apply pA | apply pN | apply pD | refine pS ?_ GE618.out | refine pS ?_ GE619.out) | exact HB.out)⟩⟩
                    · replace c25 := Bool.eq_false_iff.mpr c25
                      subst c25
                      have H1 : (portreeveref12_Do.l0 kj22 t620 t623 t625 (wrap64 (x11_1 + 1)) a0_0 x619001_1 x619002_1 x619003_1) = some (r1, r2, r3, r4, r5, r6) := by rw [if_neg (show ¬ (false = true) by decide)] at H; exact H
                      clear H
                      have H := H1
                      clear H1
                      have H' := Aside0.mk H
                      clear H
                      go_wp2
                      go_roundg kj22
                      case measure => have := HK1.out; have := HJ22.out; omega
                      case rel => exact ⟨(wrap64 (x11_1 + 1)), (x619001_1), (x619002_1), (x619003_1), (by first | rfl | (simp; done) | (simp [*]; done)), H', ⟨by have := HK1.out; have := HJ22.out; omega⟩, ⟨by (with_reducible repeat (first | apply Kd.V_alloc | apply Kd.V_drewN | apply Kd.V_drew)); exact HO_7.out⟩, ⟨by (with_reducible repeat (first | refine qN ?_ _ | refine qD ?_ | refine qA ?_ _)); exact BK618.out⟩, ⟨by (with_reducible repeat (first | refine qN ?_ _ | refine qD ?_ | refine qA ?_ _)); exact BK619.out⟩, ⟨by repeat (first | (with_reducible first | exact HB.out | apply pA | apply pN | apply pD | refine pS ?_ GE618.out | refine pS ?_ GE619.out) | exact HB.out)⟩⟩
          · rw [if_neg c13] at H
            exact absurd H (by simp)
        · rw [if_neg c12] at H
          have c12b0 : decide (x11_1 < (t620.length : Int)) = false := decide_eq_false c12
          clear c12
          replace H := Option.bind_eq_some_iff.mp H
          obtain ⟨t627, A290, H⟩ := H
          replace H : (if t627 = true then (some (t623, x619001_1, x619002_1, x619003_1, t620, 0)) else (some (t623, x619001_1, 0, x619003_1, t620, 0))) = some (r1, r2, r3, r4, r5, r6) := H
          have A29 := Aside0.mk A290
          clear A290
          by_cases c30 : t627 = true
          · subst c30
            have H1 : (some (t623, x619001_1, x619002_1, x619003_1, t620, 0)) = some (r1, r2, r3, r4, r5, r6) := by rw [if_pos rfl] at H; exact H
            clear H
            have H := H1
            clear H1
            simp only [Option.some.injEq, Prod.mk.injEq] at H
            obtain ⟨rfl, rfl, rfl, rfl, rfl, rfl⟩ := H
            have hnb31 := NB618_619.out
            have hnc31 := NB619_618.out
            have hcz32_0 : wr.cell? ⟨gb618, 0, none⟩ = some (.int .i64 a0_0) := (blk_cell BK618.out 0).trans rfl
            have hcz32_1 : wr.cell? ⟨gb618, 1, none⟩ = some (.int .i64 x619001_1) := (blk_cell BK618.out 1).trans rfl
            have hcz32_2 : wr.cell? ⟨gb618, 2, none⟩ = some (.int .i64 x619002_1) := (blk_cell BK618.out 2).trans rfl
            have hcz32_3 : wr.cell? ⟨gb618, 3, none⟩ = some (.int .u8 x619003_1) := (blk_cell BK618.out 3).trans rfl
            have hfz32_0 := blk_frozen BK618.out 0
            have hfz32_1 := blk_frozen BK618.out 1
            have hfz32_2 := blk_frozen BK618.out 2
            have hfz32_3 := blk_frozen BK618.out 3
            go_wp2_with (first | ((with_reducible refine gate_callee (f := 21) rfl ?_); refine goesL_ (some 61) rfl rfl Tryd.func21 (by kernel_rfl) rfl #[.int .i64 t623] rfl (by (try simp only [List.map_toArray, List.map_cons, List.map_nil]); first | done | rfl | (simp only [List.length_drop, List.length_take]; rfl)) ?_; (with_reducible refine (portreeveref11_Timed.calls t623 true _ A29.out).mono ?_); rintro e w' ⟨rfl, ⟨nd, rfl⟩⟩; refine ⟨_, rfl, ?_⟩; have hcz33_0 : wr.cell? ⟨gb619, 0, none⟩ = some (.int .i64 0) := (blk_cell BK619.out 0).trans rfl; have hcz33_1 : wr.cell? ⟨gb619, 1, none⟩ = some (.int .i64 0) := (blk_cell BK619.out 1).trans rfl; have hcz33_2 : wr.cell? ⟨gb619, 2, none⟩ = some (.int .i64 0) := (blk_cell BK619.out 2).trans rfl; have hcz33_3 : wr.cell? ⟨gb619, 3, none⟩ = some (.int .u8 0) := (blk_cell BK619.out 3).trans rfl; have hfz33_0 := blk_frozen BK619.out 0; have hfz33_1 := blk_frozen BK619.out 1; have hfz33_2 := blk_frozen BK619.out 2; have hfz33_3 := blk_frozen BK619.out 3))
            refine bodyPost_ret (results_ctt rfl _ _ gb619 23 #[.int .i64 t623, .int .i64 x619001_1, .int .i64 x619002_1, .int .u8 x619003_1] (0, 0) _ rfl (by (with_reducible repeat (first | refine qN ?_ _ | refine qD ?_ | refine qA ?_ _)); refine blk_put (cs := #[.int .i64 t623, .int .i64 x619001_1, .int .i64 x619002_1, .int .u8 0]) ?_ 3 _ rfl; (with_reducible repeat (first | refine qN ?_ _ | refine qD ?_ | refine qA ?_ _)); refine blk_put (cs := #[.int .i64 t623, .int .i64 x619001_1, .int .i64 0, .int .u8 0]) ?_ 2 _ rfl; (with_reducible repeat (first | refine qN ?_ _ | refine qD ?_ | refine qA ?_ _)); refine blk_put (cs := #[.int .i64 t623, .int .i64 0, .int .i64 0, .int .u8 0]) ?_ 1 _ rfl; (with_reducible repeat (first | refine qN ?_ _ | refine qD ?_ | refine qA ?_ _)); refine blk_put (cs := #[.int .i64 0, .int .i64 0, .int .i64 0, .int .u8 0]) ?_ 0 _ rfl; (with_reducible repeat (first | refine qN ?_ _ | refine qD ?_ | refine qA ?_ _)); refine blk_far ?_ NB619_618.out _; (with_reducible repeat (first | refine qN ?_ _ | refine qD ?_ | refine qA ?_ _)); exact BK619.out) Tryd.underlying23 rfl (by kernel_rfl)) rfl ?_
            exact ⟨_, by first | rfl | (simp [errW_none, errW_some] <;> rfl) | (simp [*, errW_none, errW_some] <;> rfl), by (with_reducible repeat (first | apply Kd.V_alloc | apply Kd.V_drewN | apply Kd.V_drew)); exact Kd.V_mono (Kd.V_far (p := ⟨gb619, 3, none⟩) (Kd.V_far (p := ⟨gb619, 2, none⟩) (Kd.V_far (p := ⟨gb619, 1, none⟩) (Kd.V_far (p := ⟨gb619, 0, none⟩) (Kd.V_far (p := ⟨gb618, 0, none⟩) (Kd.V_mono (Kd.V_mono HO_7.out (fun k_ hk => (⟨hk, hk.2.1⟩ : _ ∧ k_ ≠ gb618))) (fun k_ hk => (⟨hk, hk.1.2.2⟩ : _ ∧ k_ ≠ gb619))) (fun _ hk => hk.1.2) (.int .i64 t623)) (fun _ hk => hk.2) (.int .i64 t623)) (fun _ hk => hk.2) (.int .i64 x619001_1)) (fun _ hk => hk.2) (.int .i64 x619002_1)) (fun _ hk => hk.2) (.int .u8 x619003_1)) (fun _ hk => hk.1.1.1), by repeat (first | (with_reducible first | exact HB.out | apply pA | apply pN | apply pD | refine pS ?_ GE618.out | refine pS ?_ GE619.out) | exact HB.out)⟩
          · replace c30 := Bool.eq_false_iff.mpr c30
            subst c30
            have H1 : (some (t623, x619001_1, 0, x619003_1, t620, 0)) = some (r1, r2, r3, r4, r5, r6) := by rw [if_neg (show ¬ (false = true) by decide)] at H; exact H
            clear H
            have H := H1
            clear H1
            simp only [Option.some.injEq, Prod.mk.injEq] at H
            obtain ⟨rfl, rfl, rfl, rfl, rfl, rfl⟩ := H
            have hnb34 := NB618_619.out
            have hnc34 := NB619_618.out
            have hcz35_0 : wr.cell? ⟨gb618, 0, none⟩ = some (.int .i64 a0_0) := (blk_cell BK618.out 0).trans rfl
            have hcz35_1 : wr.cell? ⟨gb618, 1, none⟩ = some (.int .i64 x619001_1) := (blk_cell BK618.out 1).trans rfl
            have hcz35_2 : wr.cell? ⟨gb618, 2, none⟩ = some (.int .i64 x619002_1) := (blk_cell BK618.out 2).trans rfl
            have hcz35_3 : wr.cell? ⟨gb618, 3, none⟩ = some (.int .u8 x619003_1) := (blk_cell BK618.out 3).trans rfl
            have hfz35_0 := blk_frozen BK618.out 0
            have hfz35_1 := blk_frozen BK618.out 1
            have hfz35_2 := blk_frozen BK618.out 2
            have hfz35_3 := blk_frozen BK618.out 3
            go_wp2_with (first | ((with_reducible refine gate_callee (f := 21) rfl ?_); refine goesL_ (some 61) rfl rfl Tryd.func21 (by kernel_rfl) rfl #[.int .i64 t623] rfl (by (try simp only [List.map_toArray, List.map_cons, List.map_nil]); first | done | rfl | (simp only [List.length_drop, List.length_take]; rfl)) ?_; (with_reducible refine (portreeveref11_Timed.calls t623 false _ A29.out).mono ?_); rintro e w' ⟨rfl, ⟨nd, rfl⟩⟩; refine ⟨_, rfl, ?_⟩; have hcz36_0 : wr.cell? ⟨gb619, 0, none⟩ = some (.int .i64 0) := (blk_cell BK619.out 0).trans rfl; have hcz36_1 : wr.cell? ⟨gb619, 1, none⟩ = some (.int .i64 0) := (blk_cell BK619.out 1).trans rfl; have hcz36_2 : wr.cell? ⟨gb619, 2, none⟩ = some (.int .i64 0) := (blk_cell BK619.out 2).trans rfl; have hcz36_3 : wr.cell? ⟨gb619, 3, none⟩ = some (.int .u8 0) := (blk_cell BK619.out 3).trans rfl; have hfz36_0 := blk_frozen BK619.out 0; have hfz36_1 := blk_frozen BK619.out 1; have hfz36_2 := blk_frozen BK619.out 2; have hfz36_3 := blk_frozen BK619.out 3))
            refine bodyPost_ret (results_ctt rfl _ _ gb619 23 #[.int .i64 t623, .int .i64 x619001_1, .int .i64 0, .int .u8 x619003_1] (0, 0) _ rfl (by (with_reducible repeat (first | refine qN ?_ _ | refine qD ?_ | refine qA ?_ _)); refine blk_put (cs := #[.int .i64 t623, .int .i64 x619001_1, .int .i64 0, .int .u8 0]) ?_ 3 _ rfl; (with_reducible repeat (first | refine qN ?_ _ | refine qD ?_ | refine qA ?_ _)); refine blk_put (cs := #[.int .i64 t623, .int .i64 x619001_1, .int .i64 0, .int .u8 0]) ?_ 2 _ rfl; (with_reducible repeat (first | refine qN ?_ _ | refine qD ?_ | refine qA ?_ _)); refine blk_put (cs := #[.int .i64 t623, .int .i64 0, .int .i64 0, .int .u8 0]) ?_ 1 _ rfl; (with_reducible repeat (first | refine qN ?_ _ | refine qD ?_ | refine qA ?_ _)); refine blk_put (cs := #[.int .i64 0, .int .i64 0, .int .i64 0, .int .u8 0]) ?_ 0 _ rfl; (with_reducible repeat (first | refine qN ?_ _ | refine qD ?_ | refine qA ?_ _)); refine blk_far ?_ NB619_618.out _; (with_reducible repeat (first | refine qN ?_ _ | refine qD ?_ | refine qA ?_ _)); refine blk_far ?_ NB619_618.out _; (with_reducible repeat (first | refine qN ?_ _ | refine qD ?_ | refine qA ?_ _)); exact BK619.out) Tryd.underlying23 rfl (by kernel_rfl)) rfl ?_
            exact ⟨_, by first | rfl | (simp [errW_none, errW_some] <;> rfl) | (simp [*, errW_none, errW_some] <;> rfl), by (with_reducible repeat (first | apply Kd.V_alloc | apply Kd.V_drewN | apply Kd.V_drew)); exact Kd.V_mono (Kd.V_far (p := ⟨gb619, 3, none⟩) (Kd.V_far (p := ⟨gb619, 2, none⟩) (Kd.V_far (p := ⟨gb619, 1, none⟩) (Kd.V_far (p := ⟨gb619, 0, none⟩) (Kd.V_far (p := ⟨gb618, 2, none⟩) (Kd.V_far (p := ⟨gb618, 0, none⟩) (Kd.V_mono (Kd.V_mono HO_7.out (fun k_ hk => (⟨hk, hk.2.1⟩ : _ ∧ k_ ≠ gb618))) (fun k_ hk => (⟨hk, hk.1.2.2⟩ : _ ∧ k_ ≠ gb619))) (fun _ hk => hk.1.2) (.int .i64 t623)) (fun _ hk => hk.1.2) (.int .i64 0)) (fun _ hk => hk.2) (.int .i64 t623)) (fun _ hk => hk.2) (.int .i64 x619001_1)) (fun _ hk => hk.2) (.int .i64 0)) (fun _ hk => hk.2) (.int .u8 x619003_1)) (fun _ hk => hk.1.1.1), by repeat (first | (with_reducible first | exact HB.out | apply pA | apply pN | apply pD | refine pS ?_ GE618.out | refine pS ?_ GE619.out) | exact HB.out)⟩
  · replace c4 := Bool.eq_false_iff.mpr c4
    subst c4
    have H1 : (some (a0_0, a0_1, a0_2, a0_3, ([] : List Int), 1)) = some (r1, r2, r3, r4, r5, r6) := by rw [if_neg (show ¬ (false = true) by decide)] at H; exact H
    clear H
    have H := H1
    clear H1
    simp only [Option.some.injEq, Prod.mk.injEq] at H
    obtain ⟨rfl, rfl, rfl, rfl, rfl, rfl⟩ := H
    go_enter Tryd.func14, Tryd.ntmps14
    go_wp2_with (first | ((with_reducible refine gate_dst (N := 2) rfl ?_); refine box_event ?hg (N := 2) ?hd (cs := #[.int .i64 a0_0, .int .i64 a0_1, .int .i64 a0_2, .int .u8 a0_3]) (t := 23) ?hr ?_; (case hd => rfl); (case hg => rfl); (case hr => first | (go_simp; done) | (go_simp; rfl)); intro gb618 hg w37 hbox hb; have n0_ := Aside0.mk (below_step (by repeat (first | (with_reducible first | exact HB.out | apply pA | apply pN | apply pD) | exact HB.out)) hb); have n1_ := Aside0.mk (hbox); have n2_ := Aside0.mk ((by rw [hg]; exact (below_size (by repeat (first | (with_reducible first | exact HB.out | apply pA | apply pN | apply pD) | exact HB.out))) : w.heap.size ≤ gb618)); have n3_ := Aside0.mk ((by rw [hg]; exact (below_size (by repeat (first | (with_reducible first | exact HB.out | apply pA | apply pN | apply pD) | exact HB.out))) : w.heap.size ≤ gb618)); clear HB; have HB := n0_; have BK618 := n1_; have GW618 := n2_; have GE618 := n3_; clear n0_ n1_ n2_ n3_; clear hb hbox hg) | ((with_reducible refine gate_dst (N := 4) rfl ?_); refine box_event ?hg (N := 4) ?hd (cs := #[.int .i64 0, .int .i64 0, .int .i64 0, .int .u8 0]) (t := 23) ?hr ?_; (case hd => rfl); (case hg => rfl); (case hr => first | (go_simp; done) | (go_simp; rfl)); intro gb619 hg w38 hbox hb; have n0_ := Aside0.mk (blk_below (g := gb618) (o := .cells #[.int .i64 a0_0, .int .i64 a0_1, .int .i64 a0_2, .int .u8 a0_3] 23 (0, 0)) (by (with_reducible repeat (first | refine qN ?_ _ | refine qD ?_ | refine qA ?_ _)); exact BK618.out) hb); have n1_ := Aside0.mk (below_step (by repeat (first | (with_reducible first | exact HB.out | apply pA | apply pN | apply pD | refine pS ?_ GE618.out) | exact HB.out)) hb); have n2_ := Aside0.mk (hbox); have n3_ := Aside0.mk ((by rw [hg]; exact (below_size (by repeat (first | (with_reducible first | exact HB.out | apply pA | apply pN | apply pD | refine pS ?_ GE618.out) | exact HB.out))) : w.heap.size ≤ gb619)); have n4_ := Aside0.mk ((by rw [hg]; exact (below_size (by repeat (first | (with_reducible first | exact HB.out | apply pA | apply pN | apply pD | refine pS ?_ GE618.out) | exact HB.out))) : w.heap.size ≤ gb619)); have n5_ := Aside0.mk ((by rw [hg]; exact Nat.ne_of_lt (blk_lt (g := gb618) (o := .cells #[.int .i64 a0_0, .int .i64 a0_1, .int .i64 a0_2, .int .u8 a0_3] 23 (0, 0)) (by (with_reducible repeat (first | refine qN ?_ _ | refine qD ?_ | refine qA ?_ _)); exact BK618.out)) : gb618 ≠ gb619)); have n6_ := Aside0.mk ((by rw [hg]; exact Nat.ne_of_gt (blk_lt (g := gb618) (o := .cells #[.int .i64 a0_0, .int .i64 a0_1, .int .i64 a0_2, .int .u8 a0_3] 23 (0, 0)) (by (with_reducible repeat (first | refine qN ?_ _ | refine qD ?_ | refine qA ?_ _)); exact BK618.out)) : gb619 ≠ gb618)); clear BK618; clear HB; have BK618 := n0_; have HB := n1_; have BK619 := n2_; have GW619 := n3_; have GE619 := n4_; have NB618_619 := n5_; have NB619_618 := n6_; clear n0_ n1_ n2_ n3_ n4_ n5_ n6_; clear hb hbox hg; have hnb39 := NB618_619.out; have hnc39 := NB619_618.out; have hcz40_0 : w38.cell? ⟨gb618, 0, none⟩ = some (.int .i64 a0_0) := (blk_cell BK618.out 0).trans rfl; have hcz40_1 : w38.cell? ⟨gb618, 1, none⟩ = some (.int .i64 a0_1) := (blk_cell BK618.out 1).trans rfl; have hcz40_2 : w38.cell? ⟨gb618, 2, none⟩ = some (.int .i64 a0_2) := (blk_cell BK618.out 2).trans rfl; have hcz40_3 : w38.cell? ⟨gb618, 3, none⟩ = some (.int .u8 a0_3) := (blk_cell BK618.out 3).trans rfl; have hfz40_0 := blk_frozen BK618.out 0; have hfz40_1 := blk_frozen BK618.out 1; have hfz40_2 := blk_frozen BK618.out 2; have hfz40_3 := blk_frozen BK618.out 3) | ((with_reducible refine gate_callee (f := 27) rfl ?_); refine goesL_ (some 17) rfl rfl Tryd.func27 (by kernel_rfl) rfl #[.int .i64 a0_0, .int .i64 a1] rfl (by (try simp only [List.map_toArray, List.map_cons, List.map_nil]); first | done | rfl | (simp only [List.length_drop, List.length_take]; rfl)) ?_; (with_reducible refine (portreeveref11_Next.calls k a0_0 a1 t620 t623 false _ A3.out).mono ?_); rintro e w41 ⟨v621, rfl, ho0, hb⟩; refine ⟨_, rfl, ?_⟩; have n0_ := Aside0.mk (Kd.V_lower (Kd.V_mono (ok' := fun k_ => (w.heap.size ≤ k_) ∧ k_ ≠ gb618 ∧ k_ ≠ gb619) ho0 (fun k_ hk_ => ⟨(Nat.le_trans (below_size (by repeat (first | (with_reducible first | exact HB.out | apply pA | apply pN | apply pD | refine pS ?_ GE618.out | refine pS ?_ GE619.out) | exact HB.out))) hk_), (Kd.freshB (g := gb618) (o := .cells #[.int .i64 a0_0, .int .i64 a0_1, .int .i64 a0_2, .int .u8 a0_3] 23 (0, 0)) (by (with_reducible repeat (first | refine qN ?_ _ | refine qD ?_ | refine qA ?_ _)); exact BK618.out) k_ hk_), (Kd.freshB (g := gb619) (o := .cells #[.int .i64 0, .int .i64 0, .int .i64 0, .int .u8 0] 23 (0, 0)) (by (with_reducible repeat (first | refine qN ?_ _ | refine qD ?_ | refine qA ?_ _)); exact BK619.out) k_ hk_)⟩)) (below_size (by repeat (first | (with_reducible first | exact HB.out | apply pA | apply pN | apply pD | refine pS ?_ GE618.out | refine pS ?_ GE619.out) | exact HB.out)))); have n1_ := Aside0.mk (blk_below (g := gb618) (o := .cells #[.int .i64 a0_0, .int .i64 a0_1, .int .i64 a0_2, .int .u8 a0_3] 23 (0, 0)) (by (with_reducible repeat (first | refine qN ?_ _ | refine qD ?_ | refine qA ?_ _)); exact BK618.out) hb); have n2_ := Aside0.mk (blk_below (g := gb619) (o := .cells #[.int .i64 0, .int .i64 0, .int .i64 0, .int .u8 0] 23 (0, 0)) (by (with_reducible repeat (first | refine qN ?_ _ | refine qD ?_ | refine qA ?_ _)); exact BK619.out) hb); have n3_ := Aside0.mk (below_step (by repeat (first | (with_reducible first | exact HB.out | apply pA | apply pN | apply pD | refine pS ?_ GE618.out | refine pS ?_ GE619.out) | exact HB.out)) hb); clear BK618; clear BK619; clear HB; have HO622 := n0_; have BK618 := n1_; have BK619 := n2_; have HB := n3_; clear n0_ n1_ n2_ n3_; (try clear hb); (try clear hb2); (try clear hk); (try clear hi); (try clear ho0); have hcz42_0 : w41.cell? ⟨gb618, 0, none⟩ = some (.int .i64 a0_0) := (blk_cell BK618.out 0).trans rfl; have hcz42_1 : w41.cell? ⟨gb618, 1, none⟩ = some (.int .i64 a0_1) := (blk_cell BK618.out 1).trans rfl; have hcz42_2 : w41.cell? ⟨gb618, 2, none⟩ = some (.int .i64 a0_2) := (blk_cell BK618.out 2).trans rfl; have hcz42_3 : w41.cell? ⟨gb618, 3, none⟩ = some (.int .u8 a0_3) := (blk_cell BK618.out 3).trans rfl; have hfz42_0 := blk_frozen BK618.out 0; have hfz42_1 := blk_frozen BK618.out 1; have hfz42_2 := blk_frozen BK618.out 2; have hfz42_3 := blk_frozen BK618.out 3; have hcz43_0 : w41.cell? ⟨gb619, 0, none⟩ = some (.int .i64 0) := (blk_cell BK619.out 0).trans rfl; have hcz43_1 : w41.cell? ⟨gb619, 1, none⟩ = some (.int .i64 0) := (blk_cell BK619.out 1).trans rfl; have hcz43_2 : w41.cell? ⟨gb619, 2, none⟩ = some (.int .i64 0) := (blk_cell BK619.out 2).trans rfl; have hcz43_3 : w41.cell? ⟨gb619, 3, none⟩ = some (.int .u8 0) := (blk_cell BK619.out 3).trans rfl; have hfz43_0 := blk_frozen BK619.out 0; have hfz43_1 := blk_frozen BK619.out 1; have hfz43_2 := blk_frozen BK619.out 2; have hfz43_3 := blk_frozen BK619.out 3))
    refine bodyPost_ret (results_ctt rfl _ _ gb619 23 #[.int .i64 a0_0, .int .i64 a0_1, .int .i64 a0_2, .int .u8 a0_3] (0, 0) _ rfl (by (with_reducible repeat (first | refine qN ?_ _ | refine qD ?_ | refine qA ?_ _)); refine blk_put (cs := #[.int .i64 a0_0, .int .i64 a0_1, .int .i64 a0_2, .int .u8 0]) ?_ 3 _ rfl; (with_reducible repeat (first | refine qN ?_ _ | refine qD ?_ | refine qA ?_ _)); refine blk_put (cs := #[.int .i64 a0_0, .int .i64 a0_1, .int .i64 0, .int .u8 0]) ?_ 2 _ rfl; (with_reducible repeat (first | refine qN ?_ _ | refine qD ?_ | refine qA ?_ _)); refine blk_put (cs := #[.int .i64 a0_0, .int .i64 0, .int .i64 0, .int .u8 0]) ?_ 1 _ rfl; (with_reducible repeat (first | refine qN ?_ _ | refine qD ?_ | refine qA ?_ _)); refine blk_put (cs := #[.int .i64 0, .int .i64 0, .int .i64 0, .int .u8 0]) ?_ 0 _ rfl; (with_reducible repeat (first | refine qN ?_ _ | refine qD ?_ | refine qA ?_ _)); exact BK619.out) Tryd.underlying23 rfl (by kernel_rfl)) rfl ?_
    exact ⟨_, by first | rfl | (simp [errW_none, errW_some] <;> rfl) | (simp [*, errW_none, errW_some] <;> rfl), (Kd.V_nil _ _ _ _ _), by repeat (first | (with_reducible first | exact HB.out | apply pA | apply pN | apply pD | refine pS ?_ GE618.out | refine pS ?_ GE619.out) | exact HB.out)⟩

/-! ### portreeveref12_Tick: function 16 -/
def portreeveref12_Tick.f (k : Nat) (a0_0 : Int) (a0_1 : Int) (a0_2 : Int) (a0_3 : Int) : Option (Int × Int × Int × Int × List Int) := if a0_2 = 0 then (some (a0_0, a0_1, a0_2, a0_3, ([] : List Int))) else (if (wrap64 (a0_2 - 1)) > 0 then (some (a0_0, a0_1, wrap64 (a0_2 - 1), a0_3, ([] : List Int))) else (if a0_1 > 0 then ((portreeveref12_Do.f k a0_0 a0_1 (wrap64 (a0_2 - 1)) a0_3 4).bind fun bt630 => (some (bt630.1, bt630.2.1, bt630.2.2.1, bt630.2.2.2.1, bt630.2.2.2.2.1))) else ((portreeveref12_Do.f k a0_0 a0_1 (wrap64 (a0_2 - 1)) a0_3 5).bind fun bt639 => (some (bt639.1, bt639.2.1, bt639.2.2.1, bt639.2.2.2.1, bt639.2.2.2.2.1)))))
theorem portreeveref12_Tick.mono : ∀ a0 a1 a2 a3 k, LeO (portreeveref12_Tick.f k a0 a1 a2 a3) (portreeveref12_Tick.f (k + 1) a0 a1 a2 a3) := by
  intro a0 a1 a2 a3 k
  unfold portreeveref12_Tick.f
  repeat' first
      | (with_reducible exact portreeveref12_Do.mono _ _ _ _ _ _)
      | (with_reducible exact LeO.refl _)
      | (with_reducible exact LeO.none _)
      | (with_reducible refine LeO.ite ?_ ?_)
      | (with_reducible refine LeO.bind ?_ (fun _ => ?_))
      | exact portreeveref12_Do.mono _ _ _ _ _ _
      | exact LeO.none _
      | refine LeO.ite ?_ ?_
      | refine LeO.bind ?_ (fun _ => ?_)
set_option maxHeartbeats 8000000 in
set_option maxRecDepth 100000 in
theorem portreeveref12_Tick.calls (k : Nat) (a0_0 : Int) (a0_1 : Int) (a0_2 : Int) (a0_3 : Int) (r1 : Int) (r2 : Int) (r3 : Int) (r4 : Int) (r5 : List Int) (w : World) (h : portreeveref12_Tick.f k a0_0 a0_1 a0_2 a0_3 = some (r1, r2, r3, r4, r5)) :
    Calls Tryd.prog 16 #[.agg #[.int .i64 a0_0, .int .i64 a0_1, .int .i64 a0_2, .int .u8 a0_3]] w fun e w' => ∃ v4_ : Value, e = .returned (.tuple #[.agg #[.int .i64 r1, .int .i64 r2, .int .i64 r3, .int .u8 r4], v4_]) ∧ Kd.V (Kd.int .i64) 3 w' w.heap.size (fun k_ => (w.heap.size ≤ k_)) v4_ r5 ∧ Below w.heap.size w w' := by
  have hu23 := Tryd.underlying23
  have HB := Aside0.mk (Below.refl w.heap.size w)
  have H : (if a0_2 = 0 then (some (a0_0, a0_1, a0_2, a0_3, ([] : List Int))) else (if (wrap64 (a0_2 - 1)) > 0 then (some (a0_0, a0_1, wrap64 (a0_2 - 1), a0_3, ([] : List Int))) else (if a0_1 > 0 then ((portreeveref12_Do.f k a0_0 a0_1 (wrap64 (a0_2 - 1)) a0_3 4).bind fun bt630 => (some (bt630.1, bt630.2.1, bt630.2.2.1, bt630.2.2.2.1, bt630.2.2.2.2.1))) else ((portreeveref12_Do.f k a0_0 a0_1 (wrap64 (a0_2 - 1)) a0_3 5).bind fun bt639 => (some (bt639.1, bt639.2.1, bt639.2.2.1, bt639.2.2.2.1, bt639.2.2.2.2.1)))))) = some (r1, r2, r3, r4, r5) := h
  clear h
  by_cases c2 : a0_2 = 0
  · rw [if_pos c2] at H
    have c2b0 : (a0_2 == 0) = true := beq_iff_eq.mpr c2
    have c2b1 : (a0_2 != 0) = false := bne_eq_false_iff_eq.mpr c2
    clear c2
    simp only [Option.some.injEq, Prod.mk.injEq] at H
    obtain ⟨rfl, rfl, rfl, rfl, rfl⟩ := H
    go_enter Tryd.func16, Tryd.ntmps16
    go_wp2_with (first | ((with_reducible refine gate_dst (N := 1) rfl ?_); refine box_event ?hg (N := 1) ?hd (cs := #[.int .i64 a0_0, .int .i64 a0_1, .int .i64 a0_2, .int .u8 a0_3]) (t := 23) ?hr ?_; (case hd => rfl); (case hg => rfl); (case hr => first | (go_simp; done) | (go_simp; rfl)); intro gb628 hg w3 hbox hb; have n0_ := Aside0.mk (below_step (by repeat (first | (with_reducible first | exact HB.out | apply pA | apply pN | apply pD) | exact HB.out)) hb); have n1_ := Aside0.mk (hbox); have n2_ := Aside0.mk ((by rw [hg]; exact (below_size (by repeat (first | (with_reducible first | exact HB.out | apply pA | apply pN | apply pD) | exact HB.out))) : w.heap.size ≤ gb628)); have n3_ := Aside0.mk ((by rw [hg]; exact (below_size (by repeat (first | (with_reducible first | exact HB.out | apply pA | apply pN | apply pD) | exact HB.out))) : w.heap.size ≤ gb628)); clear HB; have HB := n0_; have BK628 := n1_; have GW628 := n2_; have GE628 := n3_; clear n0_ n1_ n2_ n3_; clear hb hbox hg) | ((with_reducible refine gate_dst (N := 2) rfl ?_); refine box_event ?hg (N := 2) ?hd (cs := #[.int .i64 0, .int .i64 0, .int .i64 0, .int .u8 0]) (t := 23) ?hr ?_; (case hd => rfl); (case hg => rfl); (case hr => first | (go_simp; done) | (go_simp; rfl)); intro gb629 hg w4 hbox hb; have n0_ := Aside0.mk (blk_below (g := gb628) (o := .cells #[.int .i64 a0_0, .int .i64 a0_1, .int .i64 a0_2, .int .u8 a0_3] 23 (0, 0)) (by (with_reducible repeat (first | refine qN ?_ _ | refine qD ?_ | refine qA ?_ _)); exact BK628.out) hb); have n1_ := Aside0.mk (below_step (by repeat (first | (with_reducible first | exact HB.out | apply pA | apply pN | apply pD | refine pS ?_ GE628.out) | exact HB.out)) hb); have n2_ := Aside0.mk (hbox); have n3_ := Aside0.mk ((by rw [hg]; exact (below_size (by repeat (first | (with_reducible first | exact HB.out | apply pA | apply pN | apply pD | refine pS ?_ GE628.out) | exact HB.out))) : w.heap.size ≤ gb629)); have n4_ := Aside0.mk ((by rw [hg]; exact (below_size (by repeat (first | (with_reducible first | exact HB.out | apply pA | apply pN | apply pD | refine pS ?_ GE628.out) | exact HB.out))) : w.heap.size ≤ gb629)); have n5_ := Aside0.mk ((by rw [hg]; exact Nat.ne_of_lt (blk_lt (g := gb628) (o := .cells #[.int .i64 a0_0, .int .i64 a0_1, .int .i64 a0_2, .int .u8 a0_3] 23 (0, 0)) (by (with_reducible repeat (first | refine qN ?_ _ | refine qD ?_ | refine qA ?_ _)); exact BK628.out)) : gb628 ≠ gb629)); have n6_ := Aside0.mk ((by rw [hg]; exact Nat.ne_of_gt (blk_lt (g := gb628) (o := .cells #[.int .i64 a0_0, .int .i64 a0_1, .int .i64 a0_2, .int .u8 a0_3] 23 (0, 0)) (by (with_reducible repeat (first | refine qN ?_ _ | refine qD ?_ | refine qA ?_ _)); exact BK628.out)) : gb629 ≠ gb628)); clear BK628; clear HB; have BK628 := n0_; have HB := n1_; have BK629 := n2_; have GW629 := n3_; have GE629 := n4_; have NB628_629 := n5_; have NB629_628 := n6_; clear n0_ n1_ n2_ n3_ n4_ n5_ n6_; clear hb hbox hg; have hnb5 := NB628_629.out; have hnc5 := NB629_628.out; have hcz6_0 : w4.cell? ⟨gb628, 0, none⟩ = some (.int .i64 a0_0) := (blk_cell BK628.out 0).trans rfl; have hcz6_1 : w4.cell? ⟨gb628, 1, none⟩ = some (.int .i64 a0_1) := (blk_cell BK628.out 1).trans rfl; have hcz6_2 : w4.cell? ⟨gb628, 2, none⟩ = some (.int .i64 a0_2) := (blk_cell BK628.out 2).trans rfl; have hcz6_3 : w4.cell? ⟨gb628, 3, none⟩ = some (.int .u8 a0_3) := (blk_cell BK628.out 3).trans rfl; have hfz6_0 := blk_frozen BK628.out 0; have hfz6_1 := blk_frozen BK628.out 1; have hfz6_2 := blk_frozen BK628.out 2; have hfz6_3 := blk_frozen BK628.out 3; have hcz7_0 : w4.cell? ⟨gb629, 0, none⟩ = some (.int .i64 0) := (blk_cell BK629.out 0).trans rfl; have hcz7_1 : w4.cell? ⟨gb629, 1, none⟩ = some (.int .i64 0) := (blk_cell BK629.out 1).trans rfl; have hcz7_2 : w4.cell? ⟨gb629, 2, none⟩ = some (.int .i64 0) := (blk_cell BK629.out 2).trans rfl; have hcz7_3 : w4.cell? ⟨gb629, 3, none⟩ = some (.int .u8 0) := (blk_cell BK629.out 3).trans rfl; have hfz7_0 := blk_frozen BK629.out 0; have hfz7_1 := blk_frozen BK629.out 1; have hfz7_2 := blk_frozen BK629.out 2; have hfz7_3 := blk_frozen BK629.out 3))
    refine bodyPost_ret (results_ct rfl _ _ gb629 23 #[.int .i64 a0_0, .int .i64 a0_1, .int .i64 a0_2, .int .u8 a0_3] (0, 0) _ rfl (by (with_reducible repeat (first | refine qN ?_ _ | refine qD ?_ | refine qA ?_ _)); refine blk_put (cs := #[.int .i64 a0_0, .int .i64 a0_1, .int .i64 a0_2, .int .u8 0]) ?_ 3 _ rfl; (with_reducible repeat (first | refine qN ?_ _ | refine qD ?_ | refine qA ?_ _)); refine blk_put (cs := #[.int .i64 a0_0, .int .i64 a0_1, .int .i64 0, .int .u8 0]) ?_ 2 _ rfl; (with_reducible repeat (first | refine qN ?_ _ | refine qD ?_ | refine qA ?_ _)); refine blk_put (cs := #[.int .i64 a0_0, .int .i64 0, .int .i64 0, .int .u8 0]) ?_ 1 _ rfl; (with_reducible repeat (first | refine qN ?_ _ | refine qD ?_ | refine qA ?_ _)); refine blk_put (cs := #[.int .i64 0, .int .i64 0, .int .i64 0, .int .u8 0]) ?_ 0 _ rfl; (with_reducible repeat (first | refine qN ?_ _ | refine qD ?_ | refine qA ?_ _)); exact BK629.out) Tryd.underlying23 rfl (by kernel_rfl)) rfl ?_
    exact ⟨_, by first | rfl | (simp [errW_none, errW_some] <;> rfl) | (simp [*, errW_none, errW_some] <;> rfl), (Kd.V_nil _ _ _ _ _), by repeat (first | (with_reducible first | exact HB.out | apply pA | apply pN | apply pD | refine pS ?_ GE628.out | refine pS ?_ GE629.out) | exact HB.out)⟩
  · rw [if_neg c2] at H
    have c2b0 : (a0_2 == 0) = false := beq_eq_false_iff_ne.mpr c2
    have c2b1 : (a0_2 != 0) = true := bne_iff_ne.mpr c2
    by_cases c8 : (wrap64 (a0_2 - 1)) > 0
    · rw [if_pos c8] at H
      have c8b0 : decide (0 < (wrap64 (a0_2 - 1))) = true := decide_eq_true c8
      clear c8
      simp only [Option.some.injEq, Prod.mk.injEq] at H
      obtain ⟨rfl, rfl, rfl, rfl, rfl⟩ := H
      go_enter Tryd.func16, Tryd.ntmps16
      go_wp2_with (first | ((with_reducible refine gate_dst (N := 1) rfl ?_); refine box_event ?hg (N := 1) ?hd (cs := #[.int .i64 a0_0, .int .i64 a0_1, .int .i64 a0_2, .int .u8 a0_3]) (t := 23) ?hr ?_; (case hd => rfl); (case hg => rfl); (case hr => first | (go_simp; done) | (go_simp; rfl)); intro gb628 hg w9 hbox hb; have n0_ := Aside0.mk (below_step (by repeat (first | (with_reducible first | exact HB.out | apply pA | apply pN | apply pD) | exact HB.out)) hb); have n1_ := Aside0.mk (hbox); have n2_ := Aside0.mk ((by rw [hg]; exact (below_size (by repeat (first | (with_reducible first | exact HB.out | apply pA | apply pN | apply pD) | exact HB.out))) : w.heap.size ≤ gb628)); have n3_ := Aside0.mk ((by rw [hg]; exact (below_size (by repeat (first | (with_reducible first | exact HB.out | apply pA | apply pN | apply pD) | exact HB.out))) : w.heap.size ≤ gb628)); clear HB; have HB := n0_; have BK628 := n1_; have GW628 := n2_; have GE628 := n3_; clear n0_ n1_ n2_ n3_; clear hb hbox hg) | ((with_reducible refine gate_dst (N := 2) rfl ?_); refine box_event ?hg (N := 2) ?hd (cs := #[.int .i64 0, .int .i64 0, .int .i64 0, .int .u8 0]) (t := 23) ?hr ?_; (case hd => rfl); (case hg => rfl); (case hr => first | (go_simp; done) | (go_simp; rfl)); intro gb629 hg w10 hbox hb; have n0_ := Aside0.mk (blk_below (g := gb628) (o := .cells #[.int .i64 a0_0, .int .i64 a0_1, .int .i64 a0_2, .int .u8 a0_3] 23 (0, 0)) (by (with_reducible repeat (first | refine qN ?_ _ | refine qD ?_ | refine qA ?_ _)); exact BK628.out) hb); have n1_ := Aside0.mk (below_step (by repeat (first | (with_reducible first | exact HB.out | apply pA | apply pN | apply pD | refine pS ?_ GE628.out) | exact HB.out)) hb); have n2_ := Aside0.mk (hbox); have n3_ := Aside0.mk ((by rw [hg]; exact (below_size (by repeat (first | (with_reducible first | exact HB.out | apply pA | apply pN | apply pD | refine pS ?_ GE628.out) | exact HB.out))) : w.heap.size ≤ gb629)); have n4_ := Aside0.mk ((by rw [hg]; exact (below_size (by repeat (first | (with_reducible first | exact HB.out | apply pA | apply pN | apply pD | refine pS ?_ GE628.out) | exact HB.out))) : w.heap.size ≤ gb629)); have n5_ := Aside0.mk ((by rw [hg]; exact Nat.ne_of_lt (blk_lt (g := gb628) (o := .cells #[.int .i64 a0_0, .int .i64 a0_1, .int .i64 a0_2, .int .u8 a0_3] 23 (0, 0)) (by (with_reducible repeat (first | refine qN ?_ _ | refine qD ?_ | refine qA ?_ _)); exact BK628.out)) : gb628 ≠ gb629)); have n6_ := Aside0.mk ((by rw [hg]; exact Nat.ne_of_gt (blk_lt (g := gb628) (o := .cells #[.int .i64 a0_0, .int .i64 a0_1, .int .i64 a0_2, .int .u8 a0_3] 23 (0, 0)) (by (with_reducible repeat (first | refine qN ?_ _ | refine qD ?_ | refine qA ?_ _)); exact BK628.out)) : gb629 ≠ gb628)); clear BK628; clear HB; have BK628 := n0_; have HB := n1_; have BK629 := n2_; have GW629 := n3_; have GE629 := n4_; have NB628_629 := n5_; have NB629_628 := n6_; clear n0_ n1_ n2_ n3_ n4_ n5_ n6_; clear hb hbox hg; have hnb11 := NB628_629.out; have hnc11 := NB629_628.out; have hcz12_0 : w10.cell? ⟨gb628, 0, none⟩ = some (.int .i64 a0_0) := (blk_cell BK628.out 0).trans rfl; have hcz12_1 : w10.cell? ⟨gb628, 1, none⟩ = some (.int .i64 a0_1) := (blk_cell BK628.out 1).trans rfl; have hcz12_2 : w10.cell? ⟨gb628, 2, none⟩ = some (.int .i64 a0_2) := (blk_cell BK628.out 2).trans rfl; have hcz12_3 : w10.cell? ⟨gb628, 3, none⟩ = some (.int .u8 a0_3) := (blk_cell BK628.out 3).trans rfl; have hfz12_0 := blk_frozen BK628.out 0; have hfz12_1 := blk_frozen BK628.out 1; have hfz12_2 := blk_frozen BK628.out 2; have hfz12_3 := blk_frozen BK628.out 3; have hcz13_0 : w10.cell? ⟨gb629, 0, none⟩ = some (.int .i64 0) := (blk_cell BK629.out 0).trans rfl; have hcz13_1 : w10.cell? ⟨gb629, 1, none⟩ = some (.int .i64 0) := (blk_cell BK629.out 1).trans rfl; have hcz13_2 : w10.cell? ⟨gb629, 2, none⟩ = some (.int .i64 0) := (blk_cell BK629.out 2).trans rfl; have hcz13_3 : w10.cell? ⟨gb629, 3, none⟩ = some (.int .u8 0) := (blk_cell BK629.out 3).trans rfl; have hfz13_0 := blk_frozen BK629.out 0; have hfz13_1 := blk_frozen BK629.out 1; have hfz13_2 := blk_frozen BK629.out 2; have hfz13_3 := blk_frozen BK629.out 3))
      refine bodyPost_ret (results_ct rfl _ _ gb629 23 #[.int .i64 a0_0, .int .i64 a0_1, .int .i64 (wrap64 (a0_2 - 1)), .int .u8 a0_3] (0, 0) _ rfl (by (with_reducible repeat (first | refine qN ?_ _ | refine qD ?_ | refine qA ?_ _)); refine blk_put (cs := #[.int .i64 a0_0, .int .i64 a0_1, .int .i64 (wrap64 (a0_2 - 1)), .int .u8 0]) ?_ 3 _ rfl; (with_reducible repeat (first | refine qN ?_ _ | refine qD ?_ | refine qA ?_ _)); refine blk_put (cs := #[.int .i64 a0_0, .int .i64 a0_1, .int .i64 0, .int .u8 0]) ?_ 2 _ rfl; (with_reducible repeat (first | refine qN ?_ _ | refine qD ?_ | refine qA ?_ _)); refine blk_put (cs := #[.int .i64 a0_0, .int .i64 0, .int .i64 0, .int .u8 0]) ?_ 1 _ rfl; (with_reducible repeat (first | refine qN ?_ _ | refine qD ?_ | refine qA ?_ _)); refine blk_put (cs := #[.int .i64 0, .int .i64 0, .int .i64 0, .int .u8 0]) ?_ 0 _ rfl; (with_reducible repeat (first | refine qN ?_ _ | refine qD ?_ | refine qA ?_ _)); refine blk_far ?_ NB629_628.out _; (with_reducible repeat (first | refine qN ?_ _ | refine qD ?_ | refine qA ?_ _)); exact BK629.out) Tryd.underlying23 rfl (by kernel_rfl)) rfl ?_
      exact ⟨_, by first | rfl | (simp [errW_none, errW_some] <;> rfl) | (simp [*, errW_none, errW_some] <;> rfl), (Kd.V_nil _ _ _ _ _), by repeat (first | (with_reducible first | exact HB.out | apply pA | apply pN | apply pD | refine pS ?_ GE628.out | refine pS ?_ GE629.out) | exact HB.out)⟩
    · rw [if_neg c8] at H
      have c8b0 : decide (0 < (wrap64 (a0_2 - 1))) = false := decide_eq_false c8
      clear c8
      by_cases c14 : a0_1 > 0
      · rw [if_pos c14] at H
        have c14b0 : decide (0 < a0_1) = true := decide_eq_true c14
        clear c14
        replace H := Option.bind_eq_some_iff.mp H
        obtain ⟨⟨t630, t631, t632, t633, t634, t637⟩, A150, H⟩ := H
        replace H : (some (t630, t631, t632, t633, t634)) = some (r1, r2, r3, r4, r5) := H
        have A15 := Aside0.mk A150
        clear A150
        simp only [Option.some.injEq, Prod.mk.injEq] at H
        obtain ⟨rfl, rfl, rfl, rfl, rfl⟩ := H
        go_enter Tryd.func16, Tryd.ntmps16
        go_wp2_with (first | ((with_reducible refine gate_dst (N := 1) rfl ?_); refine box_event ?hg (N := 1) ?hd (cs := #[.int .i64 a0_0, .int .i64 a0_1, .int .i64 a0_2, .int .u8 a0_3]) (t := 23) ?hr ?_; (case hd => rfl); (case hg => rfl); (case hr => first | (go_simp; done) | (go_simp; rfl)); intro gb628 hg w16 hbox hb; have n0_ := Aside0.mk (below_step (by repeat (first | (with_reducible first | exact HB.out | apply pA | apply pN | apply pD) | exact HB.out)) hb); have n1_ := Aside0.mk (hbox); have n2_ := Aside0.mk ((by rw [hg]; exact (below_size (by repeat (first | (with_reducible first | exact HB.out | apply pA | apply pN | apply pD) | exact HB.out))) : w.heap.size ≤ gb628)); have n3_ := Aside0.mk ((by rw [hg]; exact (below_size (by repeat (first | (with_reducible first | exact HB.out | apply pA | apply pN | apply pD) | exact HB.out))) : w.heap.size ≤ gb628)); clear HB; have HB := n0_; have BK628 := n1_; have GW628 := n2_; have GE628 := n3_; clear n0_ n1_ n2_ n3_; clear hb hbox hg) | ((with_reducible refine gate_dst (N := 2) rfl ?_); refine box_event ?hg (N := 2) ?hd (cs := #[.int .i64 0, .int .i64 0, .int .i64 0, .int .u8 0]) (t := 23) ?hr ?_; (case hd => rfl); (case hg => rfl); (case hr => first | (go_simp; done) | (go_simp; rfl)); intro gb629 hg w17 hbox hb; have n0_ := Aside0.mk (blk_below (g := gb628) (o := .cells #[.int .i64 a0_0, .int .i64 a0_1, .int .i64 a0_2, .int .u8 a0_3] 23 (0, 0)) (by (with_reducible repeat (first | refine qN ?_ _ | refine qD ?_ | refine qA ?_ _)); exact BK628.out) hb); have n1_ := Aside0.mk (below_step (by repeat (first | (with_reducible first | exact HB.out | apply pA | apply pN | apply pD | refine pS ?_ GE628.out) | exact HB.out)) hb); have n2_ := Aside0.mk (hbox); have n3_ := Aside0.mk ((by rw [hg]; exact (below_size (by repeat (first | (with_reducible first | exact HB.out | apply pA | apply pN | apply pD | refine pS ?_ GE628.out) | exact HB.out))) : w.heap.size ≤ gb629)); have n4_ := Aside0.mk ((by rw [hg]; exact (below_size (by repeat (first | (with_reducible first | exact HB.out | apply pA | apply pN | apply pD | refine pS ?_ GE628.out) | exact HB.out))) : w.heap.size ≤ gb629)); have n5_ := Aside0.mk ((by rw [hg]; exact Nat.ne_of_lt (blk_lt (g := gb628) (o := .cells #[.int .i64 a0_0, .int .i64 a0_1, .int .i64 a0_2, .int .u8 a0_3] 23 (0, 0)) (by (with_reducible repeat (first | refine qN ?_ _ | refine qD ?_ | refine qA ?_ _)); exact BK628.out)) : gb628 ≠ gb629)); have n6_ := Aside0.mk ((by rw [hg]; exact Nat.ne_of_gt (blk_lt (g := gb628) (o := .cells #[.int .i64 a0_0, .int .i64 a0_1, .int .i64 a0_2, .int .u8 a0_3] 23 (0, 0)) (by (with_reducible repeat (first | refine qN ?_ _ | refine qD ?_ | refine qA ?_ _)); exact BK628.out)) : gb629 ≠ gb628)); clear BK628; clear HB; have BK628 := n0_; have HB := n1_; have BK629 := n2_; have GW629 := n3_; have GE629 := n4_; have NB628_629 := n5_; have NB629_628 := n6_; clear n0_ n1_ n2_ n3_ n4_ n5_ n6_; clear hb hbox hg; have hnb18 := NB628_629.out; have hnc18 := NB629_628.out; have hcz19_0 : w17.cell? ⟨gb628, 0, none⟩ = some (.int .i64 a0_0) := (blk_cell BK628.out 0).trans rfl; have hcz19_1 : w17.cell? ⟨gb628, 1, none⟩ = some (.int .i64 a0_1) := (blk_cell BK628.out 1).trans rfl; have hcz19_2 : w17.cell? ⟨gb628, 2, none⟩ = some (.int .i64 a0_2) := (blk_cell BK628.out 2).trans rfl; have hcz19_3 : w17.cell? ⟨gb628, 3, none⟩ = some (.int .u8 a0_3) := (blk_cell BK628.out 3).trans rfl; have hfz19_0 := blk_frozen BK628.out 0; have hfz19_1 := blk_frozen BK628.out 1; have hfz19_2 := blk_frozen BK628.out 2; have hfz19_3 := blk_frozen BK628.out 3) | ((with_reducible refine gate_callee (f := 14) rfl ?_); refine goesL_ (some 27) rfl rfl Tryd.func14 (by kernel_rfl) rfl #[.agg #[.int .i64 a0_0, .int .i64 a0_1, .int .i64 (wrap64 (a0_2 - 1)), .int .u8 a0_3], .int .i64 4] rfl (by (try simp only [List.map_toArray, List.map_cons, List.map_nil]); first | done | rfl | (simp only [List.length_drop, List.length_take]; rfl)) ?_; (with_reducible refine (portreeveref12_Do.calls k a0_0 a0_1 (wrap64 (a0_2 - 1)) a0_3 4 t630 t631 t632 t633 t634 t637 _ A15.out).mono ?_); rintro e w20 ⟨v635, rfl, ho0, hb⟩; refine ⟨_, rfl, ?_⟩; have n0_ := Aside0.mk (Kd.V_lower (Kd.V_mono (ok' := fun k_ => (w.heap.size ≤ k_) ∧ k_ ≠ gb628 ∧ k_ ≠ gb629) ho0 (fun k_ hk_ => ⟨(Nat.le_trans (below_size (by repeat (first | (with_reducible first | exact HB.out | apply pA | apply pN | apply pD | refine pS ?_ GE628.out | refine pS ?_ GE629.out) | exact HB.out))) hk_), (Kd.freshB (g := gb628) (o := .cells #[.int .i64 a0_0, .int .i64 a0_1, .int .i64 (wrap64 (a0_2 - 1)), .int .u8 a0_3] 23 (0, 0)) (by (with_reducible repeat (first | refine qN ?_ _ | refine qD ?_ | refine qA ?_ _)); refine blk_put (cs := #[.int .i64 a0_0, .int .i64 a0_1, .int .i64 a0_2, .int .u8 a0_3]) ?_ 2 _ rfl; (with_reducible repeat (first | refine qN ?_ _ | refine qD ?_ | refine qA ?_ _)); exact BK628.out) k_ hk_), (Kd.freshB (g := gb629) (o := .cells #[.int .i64 0, .int .i64 0, .int .i64 0, .int .u8 0] 23 (0, 0)) (by (with_reducible repeat (first | refine qN ?_ _ | refine qD ?_ | refine qA ?_ _)); refine blk_far ?_ NB629_628.out _; (with_reducible repeat (first | refine qN ?_ _ | refine qD ?_ | refine qA ?_ _)); exact BK629.out) k_ hk_)⟩)) (below_size (by repeat (first | (with_reducible first | exact HB.out | apply pA | apply pN | apply pD | refine pS ?_ GE628.out | refine pS ?_ GE629.out) | exact HB.out)))); have n1_ := Aside0.mk (blk_below (g := gb628) (o := .cells #[.int .i64 a0_0, .int .i64 a0_1, .int .i64 (wrap64 (a0_2 - 1)), .int .u8 a0_3] 23 (0, 0)) (by (with_reducible repeat (first | refine qN ?_ _ | refine qD ?_ | refine qA ?_ _)); refine blk_put (cs := #[.int .i64 a0_0, .int .i64 a0_1, .int .i64 a0_2, .int .u8 a0_3]) ?_ 2 _ rfl; (with_reducible repeat (first | refine qN ?_ _ | refine qD ?_ | refine qA ?_ _)); exact BK628.out) hb); have n2_ := Aside0.mk (blk_below (g := gb629) (o := .cells #[.int .i64 0, .int .i64 0, .int .i64 0, .int .u8 0] 23 (0, 0)) (by (with_reducible repeat (first | refine qN ?_ _ | refine qD ?_ | refine qA ?_ _)); refine blk_far ?_ NB629_628.out _; (with_reducible repeat (first | refine qN ?_ _ | refine qD ?_ | refine qA ?_ _)); exact BK629.out) hb); have n3_ := Aside0.mk (below_step (by repeat (first | (with_reducible first | exact HB.out | apply pA | apply pN | apply pD | refine pS ?_ GE628.out | refine pS ?_ GE629.out) | exact HB.out)) hb); clear BK628; clear BK629; clear HB; have HO636 := n0_; have BK628 := n1_; have BK629 := n2_; have HB := n3_; clear n0_ n1_ n2_ n3_; (try clear hb); (try clear hb2); (try clear hk); (try clear hi); (try clear ho0)) | ((with_reducible refine gate_dst (N := 4) rfl ?_); refine box_event ?hg (N := 4) ?hd (cs := #[.int .i64 0, .int .i64 0, .int .i64 0, .int .u8 0]) (t := 23) ?hr ?_; (case hd => rfl); (case hg => rfl); (case hr => first | (go_simp; done) | (go_simp; rfl)); intro gb638 hg w21 hbox hb; have n0_ := Aside0.mk (Kd.V_below (Kd.V_elderB (by (with_reducible repeat (first | apply Kd.V_alloc | apply Kd.V_drewN | apply Kd.V_drew)); exact HO636.out) gb638 (Nat.le_of_eq hg.symm)) hb); have n1_ := Aside0.mk (blk_below (g := gb628) (o := .cells #[.int .i64 a0_0, .int .i64 a0_1, .int .i64 (wrap64 (a0_2 - 1)), .int .u8 a0_3] 23 (0, 0)) (by (with_reducible repeat (first | refine qN ?_ _ | refine qD ?_ | refine qA ?_ _)); exact BK628.out) hb); have n2_ := Aside0.mk (blk_below (g := gb629) (o := .cells #[.int .i64 0, .int .i64 0, .int .i64 0, .int .u8 0] 23 (0, 0)) (by (with_reducible repeat (first | refine qN ?_ _ | refine qD ?_ | refine qA ?_ _)); exact BK629.out) hb); have n3_ := Aside0.mk (below_step (by repeat (first | (with_reducible first | exact HB.out | apply pA | apply pN | apply pD | refine pS ?_ GE628.out | refine pS ?_ GE629.out) | exact HB.out)) hb); have n4_ := Aside0.mk (hbox); have n5_ := Aside0.mk ((by rw [hg]; exact (below_size (by repeat (first | (with_reducible first | exact HB.out | apply pA | apply pN | apply pD | refine pS ?_ GE628.out | refine pS ?_ GE629.out) | exact HB.out))) : w.heap.size ≤ gb638)); have n6_ := Aside0.mk ((by rw [hg]; exact (below_size (by repeat (first | (with_reducible first | exact HB.out | apply pA | apply pN | apply pD | refine pS ?_ GE628.out | refine pS ?_ GE629.out) | exact HB.out))) : w.heap.size ≤ gb638)); have n7_ := Aside0.mk ((by rw [hg]; exact Nat.ne_of_lt (blk_lt (g := gb628) (o := .cells #[.int .i64 a0_0, .int .i64 a0_1, .int .i64 (wrap64 (a0_2 - 1)), .int .u8 a0_3] 23 (0, 0)) (by (with_reducible repeat (first | refine qN ?_ _ | refine qD ?_ | refine qA ?_ _)); exact BK628.out)) : gb628 ≠ gb638)); have n8_ := Aside0.mk ((by rw [hg]; exact Nat.ne_of_gt (blk_lt (g := gb628) (o := .cells #[.int .i64 a0_0, .int .i64 a0_1, .int .i64 (wrap64 (a0_2 - 1)), .int .u8 a0_3] 23 (0, 0)) (by (with_reducible repeat (first | refine qN ?_ _ | refine qD ?_ | refine qA ?_ _)); exact BK628.out)) : gb638 ≠ gb628)); have n9_ := Aside0.mk ((by rw [hg]; exact Nat.ne_of_lt (blk_lt (g := gb629) (o := .cells #[.int .i64 0, .int .i64 0, .int .i64 0, .int .u8 0] 23 (0, 0)) (by (with_reducible repeat (first | refine qN ?_ _ | refine qD ?_ | refine qA ?_ _)); exact BK629.out)) : gb629 ≠ gb638)); have n10_ := Aside0.mk ((by rw [hg]; exact Nat.ne_of_gt (blk_lt (g := gb629) (o := .cells #[.int .i64 0, .int .i64 0, .int .i64 0, .int .u8 0] 23 (0, 0)) (by (with_reducible repeat (first | refine qN ?_ _ | refine qD ?_ | refine qA ?_ _)); exact BK629.out)) : gb638 ≠ gb629)); clear HO636; clear BK628; clear BK629; clear HB; have HO636 := n0_; have BK628 := n1_; have BK629 := n2_; have HB := n3_; have BK638 := n4_; have GW638 := n5_; have GE638 := n6_; have NB628_638 := n7_; have NB638_628 := n8_; have NB629_638 := n9_; have NB638_629 := n10_; clear n0_ n1_ n2_ n3_ n4_ n5_ n6_ n7_ n8_ n9_ n10_; clear hb hbox hg; have hnb22 := NB638_628.out; have hnc22 := NB628_638.out; have hnb23 := NB638_629.out; have hnc23 := NB629_638.out; have hcz24_0 : w21.cell? ⟨gb638, 0, none⟩ = some (.int .i64 0) := (blk_cell BK638.out 0).trans rfl; have hcz24_1 : w21.cell? ⟨gb638, 1, none⟩ = some (.int .i64 0) := (blk_cell BK638.out 1).trans rfl; have hcz24_2 : w21.cell? ⟨gb638, 2, none⟩ = some (.int .i64 0) := (blk_cell BK638.out 2).trans rfl; have hcz24_3 : w21.cell? ⟨gb638, 3, none⟩ = some (.int .u8 0) := (blk_cell BK638.out 3).trans rfl; have hfz24_0 := blk_frozen BK638.out 0; have hfz24_1 := blk_frozen BK638.out 1; have hfz24_2 := blk_frozen BK638.out 2; have hfz24_3 := blk_frozen BK638.out 3; have hcz25_0 : w21.cell? ⟨gb629, 0, none⟩ = some (.int .i64 0) := (blk_cell BK629.out 0).trans rfl; have hcz25_1 : w21.cell? ⟨gb629, 1, none⟩ = some (.int .i64 0) := (blk_cell BK629.out 1).trans rfl; have hcz25_2 : w21.cell? ⟨gb629, 2, none⟩ = some (.int .i64 0) := (blk_cell BK629.out 2).trans rfl; have hcz25_3 : w21.cell? ⟨gb629, 3, none⟩ = some (.int .u8 0) := (blk_cell BK629.out 3).trans rfl; have hfz25_0 := blk_frozen BK629.out 0; have hfz25_1 := blk_frozen BK629.out 1; have hfz25_2 := blk_frozen BK629.out 2; have hfz25_3 := blk_frozen BK629.out 3))
        refine bodyPost_ret (results_ct rfl _ _ gb629 23 #[.int .i64 t630, .int .i64 t631, .int .i64 t632, .int .u8 t633] (0, 0) _ rfl (by (with_reducible repeat (first | refine qN ?_ _ | refine qD ?_ | refine qA ?_ _)); refine blk_put (cs := #[.int .i64 t630, .int .i64 t631, .int .i64 t632, .int .u8 0]) ?_ 3 _ rfl; (with_reducible repeat (first | refine qN ?_ _ | refine qD ?_ | refine qA ?_ _)); refine blk_put (cs := #[.int .i64 t630, .int .i64 t631, .int .i64 0, .int .u8 0]) ?_ 2 _ rfl; (with_reducible repeat (first | refine qN ?_ _ | refine qD ?_ | refine qA ?_ _)); refine blk_put (cs := #[.int .i64 t630, .int .i64 0, .int .i64 0, .int .u8 0]) ?_ 1 _ rfl; (with_reducible repeat (first | refine qN ?_ _ | refine qD ?_ | refine qA ?_ _)); refine blk_put (cs := #[.int .i64 0, .int .i64 0, .int .i64 0, .int .u8 0]) ?_ 0 _ rfl; (with_reducible repeat (first | refine qN ?_ _ | refine qD ?_ | refine qA ?_ _)); refine blk_far ?_ NB629_638.out _; (with_reducible repeat (first | refine qN ?_ _ | refine qD ?_ | refine qA ?_ _)); refine blk_far ?_ NB629_638.out _; (with_reducible repeat (first | refine qN ?_ _ | refine qD ?_ | refine qA ?_ _)); refine blk_far ?_ NB629_638.out _; (with_reducible repeat (first | refine qN ?_ _ | refine qD ?_ | refine qA ?_ _)); refine blk_far ?_ NB629_638.out _; (with_reducible repeat (first | refine qN ?_ _ | refine qD ?_ | refine qA ?_ _)); exact BK629.out) Tryd.underlying23 rfl (by kernel_rfl)) rfl ?_
        exact ⟨_, by first | rfl | (simp [errW_none, errW_some] <;> rfl) | (simp [*, errW_none, errW_some] <;> rfl), by (with_reducible repeat (first | apply Kd.V_alloc | apply Kd.V_drewN | apply Kd.V_drew)); exact Kd.V_mono (Kd.V_far (p := ⟨gb629, 3, none⟩) (Kd.V_far (p := ⟨gb629, 2, none⟩) (Kd.V_far (p := ⟨gb629, 1, none⟩) (Kd.V_far (p := ⟨gb629, 0, none⟩) (Kd.V_far (p := ⟨gb638, 3, none⟩) (Kd.V_far (p := ⟨gb638, 2, none⟩) (Kd.V_far (p := ⟨gb638, 1, none⟩) (Kd.V_far (p := ⟨gb638, 0, none⟩) (Kd.V_mono (Kd.V_mono HO636.out (fun k_ hk => (⟨hk, hk.2⟩ : _ ∧ k_ ≠ gb638))) (fun k_ hk => (⟨hk, hk.1.1.2.2⟩ : _ ∧ k_ ≠ gb629))) (fun _ hk => hk.1.2) (.int .i64 t630)) (fun _ hk => hk.1.2) (.int .i64 t631)) (fun _ hk => hk.1.2) (.int .i64 t632)) (fun _ hk => hk.1.2) (.int .u8 t633)) (fun _ hk => hk.2) (.int .i64 t630)) (fun _ hk => hk.2) (.int .i64 t631)) (fun _ hk => hk.2) (.int .i64 t632)) (fun _ hk => hk.2) (.int .u8 t633)) (fun _ hk => hk.1.1.1.1), by repeat (first | (with_reducible first | exact HB.out | apply pA | apply pN | apply pD | refine pS ?_ GE628.out | refine pS ?_ GE629.out | refine pS ?_ GE638.out) | exact HB.out)⟩
      · rw [if_neg c14] at H
        have c14b0 : decide (0 < a0_1) = false := decide_eq_false c14
        clear c14
        replace H := Option.bind_eq_some_iff.mp H
        obtain ⟨⟨t639, t640, t641, t642, t643, t646⟩, A260, H⟩ := H
        replace H : (some (t639, t640, t641, t642, t643)) = some (r1, r2, r3, r4, r5) := H
        have A26 := Aside0.mk A260
        clear A260
        simp only [Option.some.injEq, Prod.mk.injEq] at H
        obtain ⟨rfl, rfl, rfl, rfl, rfl⟩ := H
        go_enter Tryd.func16, Tryd.ntmps16
        go_wp2_with (first | ((with_reducible refine gate_dst (N := 1) rfl ?_); refine box_event ?hg (N := 1) ?hd (cs := #[.int .i64 a0_0, .int .i64 a0_1, .int .i64 a0_2, .int .u8 a0_3]) (t := 23) ?hr ?_; (case hd => rfl); (case hg => rfl); (case hr => first | (go_simp; done) | (go_simp; rfl)); intro gb628 hg w27 hbox hb; have n0_ := Aside0.mk (below_step (by repeat (first | (with_reducible first | exact HB.out | apply pA | apply pN | apply pD) | exact HB.out)) hb); have n1_ := Aside0.mk (hbox); have n2_ := Aside0.mk ((by rw [hg]; exact (below_size (by repeat (first | (with_reducible first | exact HB.out | apply pA | apply pN | apply pD) | exact HB.out))) : w.heap.size ≤ gb628)); have n3_ := Aside0.mk ((by rw [hg]; exact (below_size (by repeat (first | (with_reducible first | exact HB.out | apply pA | apply pN | apply pD) | exact HB.out))) : w.heap.size ≤ gb628)); clear HB; have HB := n0_; have BK628 := n1_; have GW628 := n2_; have GE628 := n3_; clear n0_ n1_ n2_ n3_; clear hb hbox hg) | ((with_reducible refine gate_dst (N := 2) rfl ?_); refine box_event ?hg (N := 2) ?hd (cs := #[.int .i64 0, .int .i64 0, .int .i64 0, .int .u8 0]) (t := 23) ?hr ?_; (case hd => rfl); (case hg => rfl); (case hr => first | (go_simp; done) | (go_simp; rfl)); intro gb629 hg w28 hbox hb; have n0_ := Aside0.mk (blk_below (g := gb628) (o := .cells #[.int .i64 a0_0, .int .i64 a0_1, .int .i64 a0_2, .int .u8 a0_3] 23 (0, 0)) (by (with_reducible repeat (first | refine qN ?_ _ | refine qD ?_ | refine qA ?_ _)); exact BK628.out) hb); have n1_ := Aside0.mk (below_step (by repeat (first | (with_reducible first | exact HB.out | apply pA | apply pN | apply pD | refine pS ?_ GE628.out) | exact HB.out)) hb); have n2_ := Aside0.mk (hbox); have n3_ := Aside0.mk ((by rw [hg]; exact (below_size (by repeat (first | (with_reducible first | exact HB.out | apply pA | apply pN | apply pD | refine pS ?_ GE628.out) | exact HB.out))) : w.heap.size ≤ gb629)); have n4_ := Aside0.mk ((by rw [hg]; exact (below_size (by repeat (first | (with_reducible first | exact HB.out | apply pA | apply pN | apply pD | refine pS ?_ GE628.out) | exact HB.out))) : w.heap.size ≤ gb629)); have n5_ := Aside0.mk ((by rw [hg]; exact Nat.ne_of_lt (blk_lt (g := gb628) (o := .cells #[.int .i64 a0_0, .int .i64 a0_1, .int .i64 a0_2, .int .u8 a0_3] 23 (0, 0)) (by (with_reducible repeat (first | refine qN ?_ _ | refine qD ?_ | refine qA ?_ _)); exact BK628.out)) : gb628 ≠ gb629)); have n6_ := Aside0.mk ((by rw [hg]; exact Nat.ne_of_gt (blk_lt (g := gb628) (o := .cells #[.int .i64 a0_0, .int .i64 a0_1, .int .i64 a0_2, .int .u8 a0_3] 23 (0, 0)) (by (with_reducible repeat (first | refine qN ?_ _ | refine qD ?_ | refine qA ?_ _)); exact BK628.out)) : gb629 ≠ gb628)); clear BK628; clear HB; have BK628 := n0_; have HB := n1_; have BK629 := n2_; have GW629 := n3_; have GE629 := n4_; have NB628_629 := n5_; have NB629_628 := n6_; clear n0_ n1_ n2_ n3_ n4_ n5_ n6_; clear hb hbox hg; have hnb29 := NB628_629.out; have hnc29 := NB629_628.out; have hcz30_0 : w28.cell? ⟨gb628, 0, none⟩ = some (.int .i64 a0_0) := (blk_cell BK628.out 0).trans rfl; have hcz30_1 : w28.cell? ⟨gb628, 1, none⟩ = some (.int .i64 a0_1) := (blk_cell BK628.out 1).trans rfl; have hcz30_2 : w28.cell? ⟨gb628, 2, none⟩ = some (.int .i64 a0_2) := (blk_cell BK628.out 2).trans rfl; have hcz30_3 : w28.cell? ⟨gb628, 3, none⟩ = some (.int .u8 a0_3) := (blk_cell BK628.out 3).trans rfl; have hfz30_0 := blk_frozen BK628.out 0; have hfz30_1 := blk_frozen BK628.out 1; have hfz30_2 := blk_frozen BK628.out 2; have hfz30_3 := blk_frozen BK628.out 3) | ((with_reducible refine gate_callee (f := 14) rfl ?_); refine goesL_ (some 35) rfl rfl Tryd.func14 (by kernel_rfl) rfl #[.agg #[.int .i64 a0_0, .int .i64 a0_1, .int .i64 (wrap64 (a0_2 - 1)), .int .u8 a0_3], .int .i64 5] rfl (by (try simp only [List.map_toArray, List.map_cons, List.map_nil]); first | done | rfl | (simp only [List.length_drop, List.length_take]; rfl)) ?_; (with_reducible refine (portreeveref12_Do.calls k a0_0 a0_1 (wrap64 (a0_2 - 1)) a0_3 5 t639 t640 t641 t642 t643 t646 _ A26.out).mono ?_); rintro e w31 ⟨v644, rfl, ho0, hb⟩; refine ⟨_, rfl, ?_⟩; have n0_ := Aside0.mk (Kd.V_lower (Kd.V_mono (ok' := fun k_ => (w.heap.size ≤ k_) ∧ k_ ≠ gb628 ∧ k_ ≠ gb629) ho0 (fun k_ hk_ => ⟨(Nat.le_trans (below_size (by repeat (first | (with_reducible first | exact HB.out | apply pA | apply pN | apply pD | refine pS ?_ GE628.out | refine pS ?_ GE629.out) | exact HB.out))) hk_), (Kd.freshB (g := gb628) (o := .cells #[.int .i64 a0_0, .int .i64 a0_1, .int .i64 (wrap64 (a0_2 - 1)), .int .u8 a0_3] 23 (0, 0)) (by (with_reducible repeat (first | refine qN ?_ _ | refine qD ?_ | refine qA ?_ _)); refine blk_put (cs := #[.int .i64 a0_0, .int .i64 a0_1, .int .i64 a0_2, .int .u8 a0_3]) ?_ 2 _ rfl; (with_reducible repeat (first | refine qN ?_ _ | refine qD ?_ | refine qA ?_ _)); exact BK628.out) k_ hk_), (Kd.freshB (g := gb629) (o := .cells #[.int .i64 0, .int .i64 0, .int .i64 0, .int .u8 0] 23 (0, 0)) (by (with_reducible repeat (first | refine qN ?_ _ | refine qD ?_ | refine qA ?_ _)); refine blk_far ?_ NB629_628.out _; (with_reducible repeat (first | refine qN ?_ _ | refine qD ?_ | refine qA ?_ _)); exact BK629.out) k_ hk_)⟩)) (below_size (by repeat (first | (with_reducible first | exact HB.out | apply pA | apply pN | apply pD | refine pS ?_ GE628.out | refine pS ?_ GE629.out) | exact HB.out)))); have n1_ := Aside0.mk (blk_below (g := gb628) (o := .cells #[.int .i64 a0_0, .int .i64 a0_1, .int .i64 (wrap64 (a0_2 - 1)), .int .u8 a0_3] 23 (0, 0)) (by (with_reducible repeat (first | refine qN ?_ _ | refine qD ?_ | refine qA ?_ _)); refine blk_put (cs := #[.int .i64 a0_0, .int .i64 a0_1, .int .i64 a0_2, .int .u8 a0_3]) ?_ 2 _ rfl; (with_reducible repeat (first | refine qN ?_ _ | refine qD ?_ | refine qA ?_ _)); exact BK628.out) hb); have n2_ := Aside0.mk (blk_below (g := gb629) (o := .cells #[.int .i64 0, .int .i64 0, .int .i64 0, .int .u8 0] 23 (0, 0)) (by (with_reducible repeat (first | refine qN ?_ _ | refine qD ?_ | refine qA ?_ _)); refine blk_far ?_ NB629_628.out _; (with_reducible repeat (first | refine qN ?_ _ | refine qD ?_ | refine qA ?_ _)); exact BK629.out) hb); have n3_ := Aside0.mk (below_step (by repeat (first | (with_reducible first | exact HB.out | apply pA | apply pN | apply pD | refine pS ?_ GE628.out | refine pS ?_ GE629.out) | exact HB.out)) hb); clear BK628; clear BK629; clear HB; have HO645 := n0_; have BK628 := n1_; have BK629 := n2_; have HB := n3_; clear n0_ n1_ n2_ n3_; (try clear hb); (try clear hb2); (try clear hk); (try clear hi); (try clear ho0)) | ((with_reducible refine gate_dst (N := 7) rfl ?_); refine box_event ?hg (N := 7) ?hd (cs := #[.int .i64 0, .int .i64 0, .int .i64 0, .int .u8 0]) (t := 23) ?hr ?_; (case hd => rfl); (case hg => rfl); (case hr => first | (go_simp; done) | (go_simp; rfl)); intro gb647 hg w32 hbox hb; have n0_ := Aside0.mk (Kd.V_below (Kd.V_elderB (by (with_reducible repeat (first | apply Kd.V_alloc | apply Kd.V_drewN | apply Kd.V_drew)); exact HO645.out) gb647 (Nat.le_of_eq hg.symm)) hb); have n1_ := Aside0.mk (blk_below (g := gb628) (o := .cells #[.int .i64 a0_0, .int .i64 a0_1, .int .i64 (wrap64 (a0_2 - 1)), .int .u8 a0_3] 23 (0, 0)) (by (with_reducible repeat (first | refine qN ?_ _ | refine qD ?_ | refine qA ?_ _)); exact BK628.out) hb); have n2_ := Aside0.mk (blk_below (g := gb629) (o := .cells #[.int .i64 0, .int .i64 0, .int .i64 0, .int .u8 0] 23 (0, 0)) (by (with_reducible repeat (first | refine qN ?_ _ | refine qD ?_ | refine qA ?_ _)); exact BK629.out) hb); have n3_ := Aside0.mk (below_step (by repeat (first | (with_reducible first | exact HB.out | apply pA | apply pN | apply pD | refine pS ?_ GE628.out | refine pS ?_ GE629.out) | exact HB.out)) hb); have n4_ := Aside0.mk (hbox); have n5_ := Aside0.mk ((by rw [hg]; exact (below_size (by repeat (first | (with_reducible first | exact HB.out | apply pA | apply pN | apply pD | refine pS ?_ GE628.out | refine pS ?_ GE629.out) | exact HB.out))) : w.heap.size ≤ gb647)); have n6_ := Aside0.mk ((by rw [hg]; exact (below_size (by repeat (first | (with_reducible first | exact HB.out | apply pA | apply pN | apply pD | refine pS ?_ GE628.out | refine pS ?_ GE629.out) | exact HB.out))) : w.heap.size ≤ gb647)); have n7_ := Aside0.mk ((by rw [hg]; exact Nat.ne_of_lt (blk_lt (g := gb628) (o := .cells #[.int .i64 a0_0, .int .i64 a0_1, .int .i64 (wrap64 (a0_2 - 1)), .int .u8 a0_3] 23 (0, 0)) (by (with_reducible repeat (first | refine qN ?_ _ | refine qD ?_ | refine qA ?_ _)); exact BK628.out)) : gb628 ≠ gb647)); have n8_ := Aside0.mk ((by rw [hg]; exact Nat.ne_of_gt (blk_lt (g := gb628) (o := .cells #[.int .i64 a0_0, .int .i64 a0_1, .int .i64 (wrap64 (a0_2 - 1)), .int .u8 a0_3] 23 (0, 0)) (by (with_reducible repeat (first | refine qN ?_ _ | refine qD ?_ | refine qA ?_ _)); exact BK628.out)) : gb647 ≠ gb628)); have n9_ := Aside0.mk ((by rw [hg]; exact Nat.ne_of_lt (blk_lt (g := gb629) (o := .cells #[.int .i64 0, .int .i64 0, .int .i64 0, .int .u8 0] 23 (0, 0)) (by (with_reducible repeat (first | refine qN ?_ _ | refine qD ?_ | refine qA ?_ _)); exact BK629.out)) : gb629 ≠ gb647)); have n10_ := Aside0.mk ((by rw [hg]; exact Nat.ne_of_gt (blk_lt (g := gb629) (o := .cells #[.int .i64 0, .int .i64 0, .int .i64 0, .int .u8 0] 23 (0, 0)) (by (with_reducible repeat (first | refine qN ?_ _ | refine qD ?_ | refine qA ?_ _)); exact BK629.out)) : gb647 ≠ gb629)); clear HO645; clear BK628; clear BK629; clear HB; have HO645 := n0_; have BK628 := n1_; have BK629 := n2_; have HB := n3_; have BK647 := n4_; have GW647 := n5_; have GE647 := n6_; have NB628_647 := n7_; have NB647_628 := n8_; have NB629_647 := n9_; have NB647_629 := n10_; clear n0_ n1_ n2_ n3_ n4_ n5_ n6_ n7_ n8_ n9_ n10_; clear hb hbox hg; have hnb33 := NB647_628.out; have hnc33 := NB628_647.out; have hnb34 := NB647_629.out; have hnc34 := NB629_647.out; have hcz35_0 : w32.cell? ⟨gb647, 0, none⟩ = some (.int .i64 0) := (blk_cell BK647.out 0).trans rfl; have hcz35_1 : w32.cell? ⟨gb647, 1, none⟩ = some (.int .i64 0) := (blk_cell BK647.out 1).trans rfl; have hcz35_2 : w32.cell? ⟨gb647, 2, none⟩ = some (.int .i64 0) := (blk_cell BK647.out 2).trans rfl; have hcz35_3 : w32.cell? ⟨gb647, 3, none⟩ = some (.int .u8 0) := (blk_cell BK647.out 3).trans rfl; have hfz35_0 := blk_frozen BK647.out 0; have hfz35_1 := blk_frozen BK647.out 1; have hfz35_2 := blk_frozen BK647.out 2; have hfz35_3 := blk_frozen BK647.out 3; have hcz36_0 : w32.cell? ⟨gb629, 0, none⟩ = some (.int .i64 0) := (blk_cell BK629.out 0).trans rfl; have hcz36_1 : w32.cell? ⟨gb629, 1, none⟩ = some (.int .i64 0) := (blk_cell BK629.out 1).trans rfl; have hcz36_2 : w32.cell? ⟨gb629, 2, none⟩ = some (.int .i64 0) := (blk_cell BK629.out 2).trans rfl; have hcz36_3 : w32.cell? ⟨gb629, 3, none⟩ = some (.int .u8 0) := (blk_cell BK629.out 3).trans rfl; have hfz36_0 := blk_frozen BK629.out 0; have hfz36_1 := blk_frozen BK629.out 1; have hfz36_2 := blk_frozen BK629.out 2; have hfz36_3 := blk_frozen BK629.out 3))
        refine bodyPost_ret (results_ct rfl _ _ gb629 23 #[.int .i64 t639, .int .i64 t640, .int .i64 t641, .int .u8 t642] (0, 0) _ rfl (by (with_reducible repeat (first | refine qN ?_ _ | refine qD ?_ | refine qA ?_ _)); refine blk_put (cs := #[.int .i64 t639, .int .i64 t640, .int .i64 t641, .int .u8 0]) ?_ 3 _ rfl; (with_reducible repeat (first | refine qN ?_ _ | refine qD ?_ | refine qA ?_ _)); refine blk_put (cs := #[.int .i64 t639, .int .i64 t640, .int .i64 0, .int .u8 0]) ?_ 2 _ rfl; (with_reducible repeat (first | refine qN ?_ _ | refine qD ?_ | refine qA ?_ _)); refine blk_put (cs := #[.int .i64 t639, .int .i64 0, .int .i64 0, .int .u8 0]) ?_ 1 _ rfl; (with_reducible repeat (first | refine qN ?_ _ | refine qD ?_ | refine qA ?_ _)); refine blk_put (cs := #[.int .i64 0, .int .i64 0, .int .i64 0, .int .u8 0]) ?_ 0 _ rfl; (with_reducible repeat (first | refine qN ?_ _ | refine qD ?_ | refine qA ?_ _)); refine blk_far ?_ NB629_647.out _; (with_reducible repeat (first | refine qN ?_ _ | refine qD ?_ | refine qA ?_ _)); refine blk_far ?_ NB629_647.out _; (with_reducible repeat (first | refine qN ?_ _ | refine qD ?_ | refine qA ?_ _)); refine blk_far ?_ NB629_647.out _; (with_reducible repeat (first | refine qN ?_ _ | refine qD ?_ | refine qA ?_ _)); refine blk_far ?_ NB629_647.out _; (with_reducible repeat (first | refine qN ?_ _ | refine qD ?_ | refine qA ?_ _)); exact BK629.out) Tryd.underlying23 rfl (by kernel_rfl)) rfl ?_
        exact ⟨_, by first | rfl | (simp [errW_none, errW_some] <;> rfl) | (simp [*, errW_none, errW_some] <;> rfl), by (with_reducible repeat (first | apply Kd.V_alloc | apply Kd.V_drewN | apply Kd.V_drew)); exact Kd.V_mono (Kd.V_far (p := ⟨gb629, 3, none⟩) (Kd.V_far (p := ⟨gb629, 2, none⟩) (Kd.V_far (p := ⟨gb629, 1, none⟩) (Kd.V_far (p := ⟨gb629, 0, none⟩) (Kd.V_far (p := ⟨gb647, 3, none⟩) (Kd.V_far (p := ⟨gb647, 2, none⟩) (Kd.V_far (p := ⟨gb647, 1, none⟩) (Kd.V_far (p := ⟨gb647, 0, none⟩) (Kd.V_mono (Kd.V_mono HO645.out (fun k_ hk => (⟨hk, hk.2⟩ : _ ∧ k_ ≠ gb647))) (fun k_ hk => (⟨hk, hk.1.1.2.2⟩ : _ ∧ k_ ≠ gb629))) (fun _ hk => hk.1.2) (.int .i64 t639)) (fun _ hk => hk.1.2) (.int .i64 t640)) (fun _ hk => hk.1.2) (.int .i64 t641)) (fun _ hk => hk.1.2) (.int .u8 t642)) (fun _ hk => hk.2) (.int .i64 t639)) (fun _ hk => hk.2) (.int .i64 t640)) (fun _ hk => hk.2) (.int .i64 t641)) (fun _ hk => hk.2) (.int .u8 t642)) (fun _ hk => hk.1.1.1.1), by repeat (first | (with_reducible first | exact HB.out | apply pA | apply pN | apply pD | refine pS ?_ GE628.out | refine pS ?_ GE629.out | refine pS ?_ GE647.out) | exact HB.out)⟩

/-! ### portreeveref11_Ints: function 17 -/
def portreeveref11_Ints.l0 : Nat → List Int → List Int → Int → Option (Bool)
  | 0, _, _, _ => none
  | k + 1, x0, x1, x5 => if x5 < (x0.length : Int) then (if 0 ≤ x5 then (if x5 < (x1.length : Int) then (if (rd x0 x5) = (rd x1 x5) then (portreeveref11_Ints.l0 k x0 x1 (wrap64 (x5 + 1))) else (some false)) else (none)) else (none)) else (some true)
def portreeveref11_Ints.f (k : Nat) (l0 : List Int) (l1 : List Int) : Option (Bool) := if (l0.length : Int) = (l1.length : Int) then (portreeveref11_Ints.l0 k l0 l1 0) else (some false)
theorem portreeveref11_Ints.mono_l : ∀ k, (∀ y0 y1 y2, LeO (portreeveref11_Ints.l0 k y0 y1 y2) (portreeveref11_Ints.l0 (k + 1) y0 y1 y2))
  | 0 => fun _ _ _ r h => by simp [portreeveref11_Ints.l0] at h
  | k + 1 => by
    have ih0 := portreeveref11_Ints.mono_l k
    · intro y0 y1 y2
      unfold portreeveref11_Ints.l0
      repeat' first
      | (with_reducible exact ih0 _ _ _)
      | (with_reducible exact LeO.refl _)
      | (with_reducible exact LeO.none _)
      | (with_reducible refine LeO.ite ?_ ?_)
      | (with_reducible refine LeO.bind ?_ (fun _ => ?_))
      | exact ih0 _ _ _
      | exact LeO.none _
      | refine LeO.ite ?_ ?_
      | refine LeO.bind ?_ (fun _ => ?_)
theorem portreeveref11_Ints.mono : ∀ a0 a1 k, LeO (portreeveref11_Ints.f k a0 a1) (portreeveref11_Ints.f (k + 1) a0 a1) := by
  intro a0 a1 k
  have ih0 := portreeveref11_Ints.mono_l k
  unfold portreeveref11_Ints.f
  repeat' first
      | (with_reducible exact ih0 _ _ _)
      | (with_reducible exact LeO.refl _)
      | (with_reducible exact LeO.none _)
      | (with_reducible refine LeO.ite ?_ ?_)
      | (with_reducible refine LeO.bind ?_ (fun _ => ?_))
      | exact ih0 _ _ _
      | exact LeO.none _
      | refine LeO.ite ?_ ?_
      | refine LeO.bind ?_ (fun _ => ?_)
set_option maxHeartbeats 8000000 in
set_option maxRecDepth 100000 in
theorem portreeveref11_Ints.calls (k : Nat) (A0 : Option Addr) (c0 : Nat) (l0 : List Int) (A1 : Option Addr) (c1 : Nat) (l1 : List Int) (r : Bool) (w : World) (hr0 : Kd.C (Kd.int .i64) w A0 l0.length l0) (hc0 : l0.length ≤ c0) (hr1 : Kd.C (Kd.int .i64) w A1 l1.length l1) (hc1 : l1.length ≤ c1) (h : portreeveref11_Ints.f k l0 l1 = some r) :
    Calls Tryd.prog 17 #[.slice A0 l0.length c0, .slice A1 l1.length c1] w fun e w' => e = .returned (.bool r) ∧ Drawn0 w w' := by
  have HR0 := Aside0.mk hr0
  have HC0 := Aside0.mk hc0
  clear hr0 hc0
  have HR1 := Aside0.mk hr1
  have HC1 := Aside0.mk hc1
  clear hr1 hc1
  have H : (if (l0.length : Int) = (l1.length : Int) then (portreeveref11_Ints.l0 k l0 l1 0) else (some false)) = some r := h
  clear h
  by_cases c3 : (l0.length : Int) = (l1.length : Int)
  · rw [if_pos c3] at H
    have c3b0 : ((l0.length : Int) == (l1.length : Int)) = true := beq_iff_eq.mpr c3
    have c3b1 : ((l0.length : Int) != (l1.length : Int)) = false := bne_eq_false_iff_eq.mpr c3
    have c3b2 : (l0.length == l1.length) = true := by first | simpa using c3 | (simp at c3 ⊢; omega)
    clear c3
    have H' := Aside0.mk H
    clear H
    go_enter Tryd.func17, Tryd.ntmps17
    go_wp2
    repeat (go_quiet (fail); try go_wp2)
    go_loopg [5] k (fun kq v5 w' => ∃ (x5_1 : Int), v5 = .int .i64 x5_1 ∧ Aside0 (portreeveref11_Ints.l0 kq l0 l1 x5_1 = some r) ∧ Aside0 (kq ≤ k) ∧ Drawn0 w w')
    case atStart => exact ⟨(0), (by first | rfl | (simp; done) | (simp [*]; done)), H', ⟨Nat.le_refl _⟩, by repeat (first | exact Drawn0.refl _ | apply Drawn0.step)⟩
    case round =>
      clear H'
      try clear c1
      try clear p2
      try clear c3
      try clear c3b0
      try clear c3b1
      try clear c3b2
      obtain ⟨x5_1, rfl, HA, HK1, ⟨m1, rfl⟩⟩ := hrel
      cases gk with
      | zero => exact absurd HA.out (by simp [portreeveref11_Ints.l0])
      | succ k1 =>
        have H := HA.out
        clear HA
        simp only [portreeveref11_Ints.l0] at H
        by_cases c4 : x5_1 < (l0.length : Int)
        · rw [if_pos c4] at H
          have c4b0 : decide (x5_1 < (l0.length : Int)) = true := decide_eq_true c4
          clear c4
          by_cases c5 : 0 ≤ x5_1
          · rw [if_pos c5] at H
            have c5b0 : decide (0 ≤ x5_1) = true := decide_eq_true c5
            clear c5
            by_cases c6 : x5_1 < (l1.length : Int)
            · rw [if_pos c6] at H
              have c6b0 : decide (x5_1 < (l1.length : Int)) = true := decide_eq_true c6
              clear c6
              by_cases c7 : (rd l0 x5_1) = (rd l1 x5_1)
              · rw [if_pos c7] at H
                have c7b0 : ((rd l0 x5_1) == (rd l1 x5_1)) = true := beq_iff_eq.mpr c7
                have c7b1 : ((rd l0 x5_1) != (rd l1 x5_1)) = false := bne_eq_false_iff_eq.mpr c7
                clear c7
                have H' := Aside0.mk H
                clear H
                have p648 : 0 ≤ (x5_1 : Int) := of_decide_eq_true (by first | (with_reducible assumption) | assumption)
                have q648 : x5_1 < (l0.length : Int) := of_decide_eq_true (by first | (with_reducible assumption) | assumption)
                obtain ⟨ad648, e648, hx648_0⟩ := Kd.at_int HR0.out x5_1 p648 q648
                cases e648
                replace p648 := eq_true p648
                replace q648 := eq_true q648
                have p649 : 0 ≤ (x5_1 : Int) := of_decide_eq_true (by first | (with_reducible assumption) | assumption)
                have q649 : x5_1 < (l1.length : Int) := of_decide_eq_true (by first | (with_reducible assumption) | assumption)
                obtain ⟨ad649, e649, hx649_0⟩ := Kd.at_int HR1.out x5_1 p649 q649
                cases e649
                replace p649 := eq_true p649
                replace q649 := eq_true q649
                go_wp2
                repeat (go_quiet (fail); try go_wp2)
                go_roundg k1
                case measure => have := HK1.out; omega
                case rel => exact ⟨(wrap64 (x5_1 + 1)), (by first | rfl | (simp; done) | (simp [*]; done)), H', ⟨by have := HK1.out; omega⟩, by repeat (first | exact Drawn0.refl _ | apply Drawn0.step)⟩
              · rw [if_neg c7] at H
                have c7b0 : ((rd l0 x5_1) == (rd l1 x5_1)) = false := beq_eq_false_iff_ne.mpr c7
                have c7b1 : ((rd l0 x5_1) != (rd l1 x5_1)) = true := bne_iff_ne.mpr c7
                obtain rfl := Option.some.inj H
                have p648 : 0 ≤ (x5_1 : Int) := of_decide_eq_true (by first | (with_reducible assumption) | assumption)
                have q648 : x5_1 < (l0.length : Int) := of_decide_eq_true (by first | (with_reducible assumption) | assumption)
                obtain ⟨ad648, e648, hx648_0⟩ := Kd.at_int HR0.out x5_1 p648 q648
                cases e648
                replace p648 := eq_true p648
                replace q648 := eq_true q648
                have p649 : 0 ≤ (x5_1 : Int) := of_decide_eq_true (by first | (with_reducible assumption) | assumption)
                have q649 : x5_1 < (l1.length : Int) := of_decide_eq_true (by first | (with_reducible assumption) | assumption)
                obtain ⟨ad649, e649, hx649_0⟩ := Kd.at_int HR1.out x5_1 p649 q649
                cases e649
                replace p649 := eq_true p649
                replace q649 := eq_true q649
                go_wp2
                repeat (go_quiet (fail); try go_wp2)
                go_ret
                exact ⟨by first | rfl | (simp; done) | (simp [*]; done), by repeat (first | exact Drawn0.refl _ | apply Drawn0.step)⟩
            · rw [if_neg c6] at H
              exact absurd H (by simp)
          · rw [if_neg c5] at H
            exact absurd H (by simp)
        · rw [if_neg c4] at H
          have c4b0 : decide (x5_1 < (l0.length : Int)) = false := decide_eq_false c4
          clear c4
          obtain rfl := Option.some.inj H
          go_wp2
          repeat (go_quiet (fail); try go_wp2)
          go_ret
          exact ⟨by first | rfl | (simp; done) | (simp [*]; done), by repeat (first | exact Drawn0.refl _ | apply Drawn0.step)⟩
  · rw [if_neg c3] at H
    have c3b0 : ((l0.length : Int) == (l1.length : Int)) = false := beq_eq_false_iff_ne.mpr c3
    have c3b1 : ((l0.length : Int) != (l1.length : Int)) = true := bne_iff_ne.mpr c3
    have c3b2 : (l0.length == l1.length) = false := by first | simpa using c3 | (simp at c3 ⊢; omega)
    obtain rfl := Option.some.inj H
    go_enter Tryd.func17, Tryd.ntmps17
    go_wp2
    repeat (go_quiet (fail); try go_wp2)
    go_ret
    exact ⟨by first | rfl | (simp; done) | (simp [*]; done), by repeat (first | exact Drawn0.refl _ | apply Drawn0.step)⟩

end Go.Proofs.YtoenogjedmnnlaaDoor.Q

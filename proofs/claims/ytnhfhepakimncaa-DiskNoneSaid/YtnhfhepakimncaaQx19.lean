-- written by this session's own program (wip/tools/myprint.py), over the kit's print
import Derived.Test.YtnhfhepakimncaaQx0
import Derived.Test.YtnhfhepakimncaaQx4
import Derived.Test.YtnhfhepakimncaaQx7
import Derived.Test.YtnhfhepakimncaaQx8
import Derived.Test.YtnhfhepakimncaaQx9
import Derived.Test.YtnhfhepakimncaaQx10
import Derived.Test.YtnhfhepakimncaaQx11
namespace Go.Proofs.Ytnhfhepakimncaa.Q
open Go.RowKit Go.Proofs.YtnhfhepakimncaaW.PrintWords Go.Proofs.YtnhfhepakimncaaW.PrintLast Go.Proofs.YtnhfhepakimncaaW.PrintMore
open Go.Proofs.YtnhfhepakimncaaV
attribute [local go_sem] max2_int min2_int max_two min_two max_three min_three max_four min_four   -- for this text's walks alone
set_option linter.unusedVariables false
set_option linter.unusedSimpArgs false

/-! ### portreevelaw03_DiskNone: function 8 -/
mutual
def portreevelaw03_DiskNone.j0 : Nat → Int → Bool → Bool → List (List Int) → List (S47) → Option (Bool)
  | 0, _, _, _, _, _ => none
  | k + 1, x1, x5, x18, x503000, x503001 => if x18 = true then (some x5) else ((disk_Crash.f k x503000 x503001 ([] : List Bool)).bind fun bt506 => ((disk_New.f k).bind fun bt513 => ((disk_Read.f k bt513.1 bt513.2 x1).bind fun bt519 => (if (bt506.1.length : Int) = (x503000.length : Int) then (portreevelaw03_DiskNone.j1 k x1 x5 bt519.1 bt519.2 ((bt506.2.length : Int) != 0) x503000 x503001 bt506.1 bt506.2) else (portreevelaw03_DiskNone.j1 k x1 x5 bt519.1 bt519.2 true x503000 x503001 bt506.1 bt506.2)))))
def portreevelaw03_DiskNone.j1 : Nat → Int → Bool → List Int → Int → Bool → List (List Int) → List (S47) → List (List Int) → List (S47) → Option (Bool)
  | 0, _, _, _, _, _, _, _, _, _ => none
  | k + 1, x1, x5, x7, x8, x40, x503000, x503001, x513000, x513001 => if x40 = true then (some false) else (portreevelaw03_DiskNone.l0 k x1 x5 x7 x8 0 x503000 x503001 x513000 x513001)
def portreevelaw03_DiskNone.l0 : Nat → Int → Bool → List Int → Int → Int → List (List Int) → List (S47) → List (List Int) → List (S47) → Option (Bool)
  | 0, _, _, _, _, _, _, _, _, _ => none
  | k + 1, x1, x5, x7, x8, x9, x503000, x503001, x513000, x513001 => if x9 < (x513000.length : Int) then (if 0 ≤ x9 then (if x9 < (x503000.length : Int) then ((portreeveref01_Row.f k (rd_L2 x513000 x9) (rd_L2 x503000 x9)).bind fun t525 => (if t525 = true then (portreevelaw03_DiskNone.l0 k x1 x5 x7 x8 (wrap64 (x9 + 1)) x503000 x503001 x513000 x513001) else (some false))) else (none)) else (none)) else (if x1 < 0 then (if x5 = true then (if x8 = 1 then (some ((x7.length : Int) == 0)) else (some false)) else (some false)) else (if x1 ≥ 64 then (if x5 = true then (if x8 = 1 then (some ((x7.length : Int) == 0)) else (some false)) else (some false)) else (if x5 = true then (if x8 = 0 then (if 128 ≤ 281474976710656 then ((portreeveref01_Row.f k x7 (List.replicate 128 0)).bind fun t529 => (some t529)) else (none)) else (some false)) else (some false))))
end
def portreevelaw03_DiskNone.f (k : Nat) (l0_0 : List (List Int)) (l0_1 : List (S47)) (a1 : Int) : Option (Bool) := (portreevelaw03_shown.f k).bind fun t503 => ((portreeveref03_Small.f k l0_0 l0_1).bind fun t504 => (if t504 = true then ((portreeveref03_Right.f k l0_0 l0_1).bind fun t505 => (portreevelaw03_DiskNone.j0 k a1 t503 (!t505) l0_0 l0_1)) else (portreevelaw03_DiskNone.j0 k a1 t503 true l0_0 l0_1)))
theorem portreevelaw03_DiskNone.mono_l : ∀ k, (∀ y0 y1 y2 y3 y4, LeO (portreevelaw03_DiskNone.j0 k y0 y1 y2 y3 y4) (portreevelaw03_DiskNone.j0 (k + 1) y0 y1 y2 y3 y4)) ∧ (∀ y0 y1 y2 y3 y4 y5 y6 y7 y8, LeO (portreevelaw03_DiskNone.j1 k y0 y1 y2 y3 y4 y5 y6 y7 y8) (portreevelaw03_DiskNone.j1 (k + 1) y0 y1 y2 y3 y4 y5 y6 y7 y8)) ∧ (∀ y0 y1 y2 y3 y4 y5 y6 y7 y8, LeO (portreevelaw03_DiskNone.l0 k y0 y1 y2 y3 y4 y5 y6 y7 y8) (portreevelaw03_DiskNone.l0 (k + 1) y0 y1 y2 y3 y4 y5 y6 y7 y8))
  | 0 => ⟨fun _ _ _ _ _ r h => by simp [portreevelaw03_DiskNone.j0] at h, fun _ _ _ _ _ _ _ _ _ r h => by simp [portreevelaw03_DiskNone.j1] at h, fun _ _ _ _ _ _ _ _ _ r h => by simp [portreevelaw03_DiskNone.l0] at h⟩
  | k + 1 => by
    obtain ⟨ih0, ih1, ih2⟩ := portreevelaw03_DiskNone.mono_l k
    refine ⟨?_, ?_, ?_⟩
    · intro y0 y1 y2 y3 y4
      unfold portreevelaw03_DiskNone.j0
      repeat' first
      | (with_reducible exact ih0 _ _ _ _ _)
      | (with_reducible exact ih1 _ _ _ _ _ _ _ _ _)
      | (with_reducible exact ih2 _ _ _ _ _ _ _ _ _)
      | (with_reducible exact disk_Crash.mono _ _ _ _)
      | (with_reducible exact disk_New.mono _)
      | (with_reducible exact disk_Read.mono _ _ _ _)
      | (with_reducible exact portreevelaw03_shown.mono _)
      | (with_reducible exact portreeveref01_Row.mono _ _ _)
      | (with_reducible exact portreeveref03_Right.mono _ _ _)
      | (with_reducible exact portreeveref03_Small.mono _ _ _)
      | (with_reducible exact LeO.refl _)
      | (with_reducible exact LeO.none _)
      | (with_reducible refine LeO.ite ?_ ?_)
      | (with_reducible refine LeO.bind ?_ (fun _ => ?_))
      | exact ih0 _ _ _ _ _
      | exact ih1 _ _ _ _ _ _ _ _ _
      | exact ih2 _ _ _ _ _ _ _ _ _
      | exact disk_Crash.mono _ _ _ _
      | exact disk_New.mono _
      | exact disk_Read.mono _ _ _ _
      | exact portreevelaw03_shown.mono _
      | exact portreeveref01_Row.mono _ _ _
      | exact portreeveref03_Right.mono _ _ _
      | exact portreeveref03_Small.mono _ _ _
      | exact LeO.none _
      | refine LeO.ite ?_ ?_
      | refine LeO.bind ?_ (fun _ => ?_)
    · intro y0 y1 y2 y3 y4 y5 y6 y7 y8
      unfold portreevelaw03_DiskNone.j1
      repeat' first
      | (with_reducible exact ih0 _ _ _ _ _)
      | (with_reducible exact ih1 _ _ _ _ _ _ _ _ _)
      | (with_reducible exact ih2 _ _ _ _ _ _ _ _ _)
      | (with_reducible exact disk_Crash.mono _ _ _ _)
      | (with_reducible exact disk_New.mono _)
      | (with_reducible exact disk_Read.mono _ _ _ _)
      | (with_reducible exact portreevelaw03_shown.mono _)
      | (with_reducible exact portreeveref01_Row.mono _ _ _)
      | (with_reducible exact portreeveref03_Right.mono _ _ _)
      | (with_reducible exact portreeveref03_Small.mono _ _ _)
      | (with_reducible exact LeO.refl _)
      | (with_reducible exact LeO.none _)
      | (with_reducible refine LeO.ite ?_ ?_)
      | (with_reducible refine LeO.bind ?_ (fun _ => ?_))
      | exact ih0 _ _ _ _ _
      | exact ih1 _ _ _ _ _ _ _ _ _
      | exact ih2 _ _ _ _ _ _ _ _ _
      | exact disk_Crash.mono _ _ _ _
      | exact disk_New.mono _
      | exact disk_Read.mono _ _ _ _
      | exact portreevelaw03_shown.mono _
      | exact portreeveref01_Row.mono _ _ _
      | exact portreeveref03_Right.mono _ _ _
      | exact portreeveref03_Small.mono _ _ _
      | exact LeO.none _
      | refine LeO.ite ?_ ?_
      | refine LeO.bind ?_ (fun _ => ?_)
    · intro y0 y1 y2 y3 y4 y5 y6 y7 y8
      unfold portreevelaw03_DiskNone.l0
      repeat' first
      | (with_reducible exact ih0 _ _ _ _ _)
      | (with_reducible exact ih1 _ _ _ _ _ _ _ _ _)
      | (with_reducible exact ih2 _ _ _ _ _ _ _ _ _)
      | (with_reducible exact disk_Crash.mono _ _ _ _)
      | (with_reducible exact disk_New.mono _)
      | (with_reducible exact disk_Read.mono _ _ _ _)
      | (with_reducible exact portreevelaw03_shown.mono _)
      | (with_reducible exact portreeveref01_Row.mono _ _ _)
      | (with_reducible exact portreeveref03_Right.mono _ _ _)
      | (with_reducible exact portreeveref03_Small.mono _ _ _)
      | (with_reducible exact LeO.refl _)
      | (with_reducible exact LeO.none _)
      | (with_reducible refine LeO.ite ?_ ?_)
      | (with_reducible refine LeO.bind ?_ (fun _ => ?_))
      | exact ih0 _ _ _ _ _
      | exact ih1 _ _ _ _ _ _ _ _ _
      | exact ih2 _ _ _ _ _ _ _ _ _
      | exact disk_Crash.mono _ _ _ _
      | exact disk_New.mono _
      | exact disk_Read.mono _ _ _ _
      | exact portreevelaw03_shown.mono _
      | exact portreeveref01_Row.mono _ _ _
      | exact portreeveref03_Right.mono _ _ _
      | exact portreeveref03_Small.mono _ _ _
      | exact LeO.none _
      | refine LeO.ite ?_ ?_
      | refine LeO.bind ?_ (fun _ => ?_)
theorem portreevelaw03_DiskNone.mono : ∀ a0 a1 a2 k, LeO (portreevelaw03_DiskNone.f k a0 a1 a2) (portreevelaw03_DiskNone.f (k + 1) a0 a1 a2) := by
  intro a0 a1 a2 k
  obtain ⟨ih0, ih1, ih2⟩ := portreevelaw03_DiskNone.mono_l k
  unfold portreevelaw03_DiskNone.f
  repeat' first
      | (with_reducible exact ih0 _ _ _ _ _)
      | (with_reducible exact ih1 _ _ _ _ _ _ _ _ _)
      | (with_reducible exact ih2 _ _ _ _ _ _ _ _ _)
      | (with_reducible exact disk_Crash.mono _ _ _ _)
      | (with_reducible exact disk_New.mono _)
      | (with_reducible exact disk_Read.mono _ _ _ _)
      | (with_reducible exact portreevelaw03_shown.mono _)
      | (with_reducible exact portreeveref01_Row.mono _ _ _)
      | (with_reducible exact portreeveref03_Right.mono _ _ _)
      | (with_reducible exact portreeveref03_Small.mono _ _ _)
      | (with_reducible exact LeO.refl _)
      | (with_reducible exact LeO.none _)
      | (with_reducible refine LeO.ite ?_ ?_)
      | (with_reducible refine LeO.bind ?_ (fun _ => ?_))
      | exact ih0 _ _ _ _ _
      | exact ih1 _ _ _ _ _ _ _ _ _
      | exact ih2 _ _ _ _ _ _ _ _ _
      | exact disk_Crash.mono _ _ _ _
      | exact disk_New.mono _
      | exact disk_Read.mono _ _ _ _
      | exact portreevelaw03_shown.mono _
      | exact portreeveref01_Row.mono _ _ _
      | exact portreeveref03_Right.mono _ _ _
      | exact portreeveref03_Small.mono _ _ _
      | exact LeO.none _
      | refine LeO.ite ?_ ?_
      | refine LeO.bind ?_ (fun _ => ?_)
set_option maxHeartbeats 8000000 in
set_option maxRecDepth 100000 in
theorem portreevelaw03_DiskNone.calls (k : Nat) (A0_0 : Option Addr) (c0_0 : Nat) (l0_0 : List (List Int)) (A0_1 : Option Addr) (c0_1 : Nat) (l0_1 : List (S47)) (a1 : Int) (r : Bool) (w : World) (hlaw_ : Aside0 (r = true)) (hr0_0 : Kd.C (Kd.slice 5 (Kd.int .u8)) w A0_0 l0_0.length l0_0) (hc0_0 : l0_0.length ≤ c0_0) (hr0_1 : Kd.C k47 w A0_1 l0_1.length l0_1) (hc0_1 : l0_1.length ≤ c0_1) (h : portreevelaw03_DiskNone.f k l0_0 l0_1 a1 = some r) :
    Calls Try.prog 8 #[.agg #[.slice A0_0 l0_0.length c0_0, .slice A0_1 l0_1.length c0_1], .int .i64 a1] w fun e w' => e = .returned (.bool r) ∧ Below w.heap.size w w' := by
  have hu25 := Try.underlying25
  have HR0_0 := Aside0.mk hr0_0
  have HC0_0 := Aside0.mk hc0_0
  clear hr0_0 hc0_0
  have HR0_1 := Aside0.mk hr0_1
  have HC0_1 := Aside0.mk hc0_1
  clear hr0_1 hc0_1
  have HB := Aside0.mk (Below.refl w.heap.size w)
  have H : ((portreevelaw03_shown.f k).bind fun t503 => ((portreeveref03_Small.f k l0_0 l0_1).bind fun t504 => (if t504 = true then ((portreeveref03_Right.f k l0_0 l0_1).bind fun t505 => (portreevelaw03_DiskNone.j0 k a1 t503 (!t505) l0_0 l0_1)) else (portreevelaw03_DiskNone.j0 k a1 t503 true l0_0 l0_1)))) = some r := h
  clear h
  replace H := Option.bind_eq_some_iff.mp H
  obtain ⟨t503, A30, H⟩ := H
  replace H : ((portreeveref03_Small.f k l0_0 l0_1).bind fun t504 => (if t504 = true then ((portreeveref03_Right.f k l0_0 l0_1).bind fun t505 => (portreevelaw03_DiskNone.j0 k a1 t503 (!t505) l0_0 l0_1)) else (portreevelaw03_DiskNone.j0 k a1 t503 true l0_0 l0_1))) = some r := H
  have A3 := Aside0.mk A30
  clear A30
  have HC4 := Aside0.mk H
  clear H
  go_enter Try.func8, Try.ntmps8
  go_upto_region 2 with (first | ((with_reducible refine gate_dst (N := 2) rfl ?_); (try (refine gate_guard (by rfl) ?_; dsimp only)); refine box_event ?hg (N := 2) ?hd (cs := #[.slice A0_0 l0_0.length c0_0, .slice A0_1 l0_1.length c0_1]) (t := 25) ?hr ?_; (case hd => rfl); (case hg => rfl); (case hr => first | (go_simp; done) | (go_simp; rfl)); intro gb502 hg w5 hbox hb; have n0_ := Aside0.mk (below_step (by repeat (first | (with_reducible first | exact HB.out | apply pA | apply pN | apply pD) | exact HB.out)) hb); have n1_ := Aside0.mk (hbox); have n2_ := Aside0.mk ((by rw [hg]; exact (below_size (by repeat (first | (with_reducible first | exact HB.out | apply pA | apply pN | apply pD) | exact HB.out))) : w.heap.size ≤ gb502)); have n3_ := Aside0.mk ((by rw [hg]; exact (below_size (by repeat (first | (with_reducible first | exact HB.out | apply pA | apply pN | apply pD) | exact HB.out))) : w.heap.size ≤ gb502)); clear HB; have HB := n0_; have BK502 := n1_; have GW502 := n2_; have GE502 := n3_; clear n0_ n1_ n2_ n3_; clear hb hbox hg) | (go_at_call 9; (with_reducible refine (portreevelaw03_shown.calls k  t503 _ A3.out).mono ?_); rintro e w6 ⟨rfl, hb⟩; have n0_ := Aside0.mk (blk_below (g := gb502) (o := .cells #[.slice A0_0 l0_0.length c0_0, .slice A0_1 l0_1.length c0_1] 25 (0, 0)) (by (with_reducible repeat (first | refine qN ?_ _ | refine qD ?_ | refine qA ?_ _)); exact BK502.out) hb); have n1_ := Aside0.mk (below_step (by repeat (first | (with_reducible first | exact HB.out | apply pA | apply pN | apply pD | refine pS ?_ GE502.out) | exact HB.out)) hb); clear BK502; clear HB; have BK502 := n0_; have HB := n1_; clear n0_ n1_; (try clear hb); (try clear hb2); (try clear hk); (try clear hi)))
  repeat (go_quiet (first | ((with_reducible refine gate_dst (N := 2) rfl ?_); (try (refine gate_guard (by rfl) ?_; dsimp only)); refine box_event ?hg (N := 2) ?hd (cs := #[.slice A0_0 l0_0.length c0_0, .slice A0_1 l0_1.length c0_1]) (t := 25) ?hr ?_; (case hd => rfl); (case hg => rfl); (case hr => first | (go_simp; done) | (go_simp; rfl)); intro gb502 hg w5 hbox hb; have n0_ := Aside0.mk (below_step (by repeat (first | (with_reducible first | exact HB.out | apply pA | apply pN | apply pD) | exact HB.out)) hb); have n1_ := Aside0.mk (hbox); have n2_ := Aside0.mk ((by rw [hg]; exact (below_size (by repeat (first | (with_reducible first | exact HB.out | apply pA | apply pN | apply pD) | exact HB.out))) : w.heap.size ≤ gb502)); have n3_ := Aside0.mk ((by rw [hg]; exact (below_size (by repeat (first | (with_reducible first | exact HB.out | apply pA | apply pN | apply pD) | exact HB.out))) : w.heap.size ≤ gb502)); clear HB; have HB := n0_; have BK502 := n1_; have GW502 := n2_; have GE502 := n3_; clear n0_ n1_ n2_ n3_; clear hb hbox hg) | (go_at_call 9; (with_reducible refine (portreevelaw03_shown.calls k  t503 _ A3.out).mono ?_); rintro e w6 ⟨rfl, hb⟩; have n0_ := Aside0.mk (blk_below (g := gb502) (o := .cells #[.slice A0_0 l0_0.length c0_0, .slice A0_1 l0_1.length c0_1] 25 (0, 0)) (by (with_reducible repeat (first | refine qN ?_ _ | refine qD ?_ | refine qA ?_ _)); exact BK502.out) hb); have n1_ := Aside0.mk (below_step (by repeat (first | (with_reducible first | exact HB.out | apply pA | apply pN | apply pD | refine pS ?_ GE502.out) | exact HB.out)) hb); clear BK502; clear HB; have BK502 := n0_; have HB := n1_; clear n0_ n1_; (try clear hb); (try clear hb2); (try clear hk); (try clear hi))); go_upto_region 2 with (first | ((with_reducible refine gate_dst (N := 2) rfl ?_); (try (refine gate_guard (by rfl) ?_; dsimp only)); refine box_event ?hg (N := 2) ?hd (cs := #[.slice A0_0 l0_0.length c0_0, .slice A0_1 l0_1.length c0_1]) (t := 25) ?hr ?_; (case hd => rfl); (case hg => rfl); (case hr => first | (go_simp; done) | (go_simp; rfl)); intro gb502 hg w5 hbox hb; have n0_ := Aside0.mk (below_step (by repeat (first | (with_reducible first | exact HB.out | apply pA | apply pN | apply pD) | exact HB.out)) hb); have n1_ := Aside0.mk (hbox); have n2_ := Aside0.mk ((by rw [hg]; exact (below_size (by repeat (first | (with_reducible first | exact HB.out | apply pA | apply pN | apply pD) | exact HB.out))) : w.heap.size ≤ gb502)); have n3_ := Aside0.mk ((by rw [hg]; exact (below_size (by repeat (first | (with_reducible first | exact HB.out | apply pA | apply pN | apply pD) | exact HB.out))) : w.heap.size ≤ gb502)); clear HB; have HB := n0_; have BK502 := n1_; have GW502 := n2_; have GE502 := n3_; clear n0_ n1_ n2_ n3_; clear hb hbox hg) | (go_at_call 9; (with_reducible refine (portreevelaw03_shown.calls k  t503 _ A3.out).mono ?_); rintro e w6 ⟨rfl, hb⟩; have n0_ := Aside0.mk (blk_below (g := gb502) (o := .cells #[.slice A0_0 l0_0.length c0_0, .slice A0_1 l0_1.length c0_1] 25 (0, 0)) (by (with_reducible repeat (first | refine qN ?_ _ | refine qD ?_ | refine qA ?_ _)); exact BK502.out) hb); have n1_ := Aside0.mk (below_step (by repeat (first | (with_reducible first | exact HB.out | apply pA | apply pN | apply pD | refine pS ?_ GE502.out) | exact HB.out)) hb); clear BK502; clear HB; have BK502 := n0_; have HB := n1_; clear n0_ n1_; (try clear hb); (try clear hb2); (try clear hk); (try clear hi))))
  (try simp only [Act.put, List.setIfInBounds_toArray, List.set_cons_zero, List.set_cons_succ])
  go_cut [18] (fun v18 wc => ∃ (kq : Nat) (x18_3 : Bool), v18 = .bool x18_3 ∧ Aside0 (portreevelaw03_DiskNone.j0 kq a1 t503 x18_3 l0_0 l0_1 = some r) ∧ Aside0 (kq ≤ k) ∧ Aside0 (wc.heap[gb502]? = some (.cells #[(.slice A0_0 l0_0.length c0_0), (.slice A0_1 l0_1.length c0_1)] 25 (0, 0))) ∧ Aside0 (Below w.heap.size w wc))
  case first =>
    have H := HC4.out
    clear HC4
    replace H := Option.bind_eq_some_iff.mp H
    obtain ⟨t504, A70, H⟩ := H
    replace H : (if t504 = true then ((portreeveref03_Right.f k l0_0 l0_1).bind fun t505 => (portreevelaw03_DiskNone.j0 k a1 t503 (!t505) l0_0 l0_1)) else (portreevelaw03_DiskNone.j0 k a1 t503 true l0_0 l0_1)) = some r := H
    have A7 := Aside0.mk A70
    clear A70
    by_cases c8 : t504 = true
    · subst c8
      have H1 : ((portreeveref03_Right.f k l0_0 l0_1).bind fun t505 => (portreevelaw03_DiskNone.j0 k a1 t503 (!t505) l0_0 l0_1)) = some r := by rw [if_pos rfl] at H; exact H
      clear H
      have H := H1
      clear H1
      replace H := Option.bind_eq_some_iff.mp H
      obtain ⟨t505, A90, H⟩ := H
      replace H : (portreevelaw03_DiskNone.j0 k a1 t503 (!t505) l0_0 l0_1) = some r := H
      have A9 := Aside0.mk A90
      clear A90
      have H' := Aside0.mk H
      clear H
      have hcz10_0 : w6.cell? ⟨gb502, 0, none⟩ = some (.slice A0_0 l0_0.length c0_0) := (blk_cell BK502.out 0).trans rfl
      have hcz10_1 : w6.cell? ⟨gb502, 1, none⟩ = some (.slice A0_1 l0_1.length c0_1) := (blk_cell BK502.out 1).trans rfl
      have hfz10_0 := blk_frozen BK502.out 0
      have hfz10_1 := blk_frozen BK502.out 1
      go_wp2_with (first | (go_at_call 10; (with_reducible refine (portreeveref03_Small.calls k _ _ l0_0 _ _ l0_1 true _ ?side1 ?side2 ?side3 ?side4 A7.out).mono ?_); (case side1 => repeat (first | exact (Kd.C_below HR0_0.out HB.out) | (with_reducible refine Kd.C_alloc ?_ _) | (with_reducible refine Kd.C_drewN ?_ _) | (with_reducible refine Kd.C_drew ?_))); (case side2 => exact HC0_0.out); (case side3 => repeat (first | exact (Kd.C_below HR0_1.out HB.out) | (with_reducible refine Kd.C_alloc ?_ _) | (with_reducible refine Kd.C_drewN ?_ _) | (with_reducible refine Kd.C_drew ?_))); (case side4 => exact HC0_1.out); rintro e w11 ⟨rfl, hb⟩; have n0_ := Aside0.mk (blk_below (g := gb502) (o := .cells #[.slice A0_0 l0_0.length c0_0, .slice A0_1 l0_1.length c0_1] 25 (0, 0)) (by (with_reducible repeat (first | refine qN ?_ _ | refine qD ?_ | refine qA ?_ _)); exact BK502.out) hb); have n1_ := Aside0.mk (below_step (by repeat (first | (with_reducible first | exact HB.out | apply pA | apply pN | apply pD | refine pS ?_ GE502.out) | exact HB.out)) hb); clear BK502; clear HB; have BK502 := n0_; have HB := n1_; clear n0_ n1_; (try clear hb); (try clear hb2); (try clear hk); (try clear hi); have hcz12_0 : w11.cell? ⟨gb502, 0, none⟩ = some (.slice A0_0 l0_0.length c0_0) := (blk_cell BK502.out 0).trans rfl; have hcz12_1 : w11.cell? ⟨gb502, 1, none⟩ = some (.slice A0_1 l0_1.length c0_1) := (blk_cell BK502.out 1).trans rfl; have hfz12_0 := blk_frozen BK502.out 0; have hfz12_1 := blk_frozen BK502.out 1) | (go_at_call 11; (with_reducible refine (portreeveref03_Right.calls k _ _ l0_0 _ _ l0_1 t505 _ ?side1 ?side2 ?side3 ?side4 A9.out).mono ?_); (case side1 => repeat (first | exact (Kd.C_below HR0_0.out HB.out) | (with_reducible refine Kd.C_alloc ?_ _) | (with_reducible refine Kd.C_drewN ?_ _) | (with_reducible refine Kd.C_drew ?_))); (case side2 => exact HC0_0.out); (case side3 => repeat (first | exact (Kd.C_below HR0_1.out HB.out) | (with_reducible refine Kd.C_alloc ?_ _) | (with_reducible refine Kd.C_drewN ?_ _) | (with_reducible refine Kd.C_drew ?_))); (case side4 => exact HC0_1.out); rintro e w13 ⟨rfl, hb⟩; have n0_ := Aside0.mk (blk_below (g := gb502) (o := .cells #[.slice A0_0 l0_0.length c0_0, .slice A0_1 l0_1.length c0_1] 25 (0, 0)) (by (with_reducible repeat (first | refine qN ?_ _ | refine qD ?_ | refine qA ?_ _)); exact BK502.out) hb); have n1_ := Aside0.mk (below_step (by repeat (first | (with_reducible first | exact HB.out | apply pA | apply pN | apply pD | refine pS ?_ GE502.out) | exact HB.out)) hb); clear BK502; clear HB; have BK502 := n0_; have HB := n1_; clear n0_ n1_; (try clear hb); (try clear hb2); (try clear hk); (try clear hi)))
      repeat (go_quiet (first | (go_at_call 10; (with_reducible refine (portreeveref03_Small.calls k _ _ l0_0 _ _ l0_1 true _ ?side1 ?side2 ?side3 ?side4 A7.out).mono ?_); (case side1 => repeat (first | exact (Kd.C_below HR0_0.out HB.out) | (with_reducible refine Kd.C_alloc ?_ _) | (with_reducible refine Kd.C_drewN ?_ _) | (with_reducible refine Kd.C_drew ?_))); (case side2 => exact HC0_0.out); (case side3 => repeat (first | exact (Kd.C_below HR0_1.out HB.out) | (with_reducible refine Kd.C_alloc ?_ _) | (with_reducible refine Kd.C_drewN ?_ _) | (with_reducible refine Kd.C_drew ?_))); (case side4 => exact HC0_1.out); rintro e w11 ⟨rfl, hb⟩; have n0_ := Aside0.mk (blk_below (g := gb502) (o := .cells #[.slice A0_0 l0_0.length c0_0, .slice A0_1 l0_1.length c0_1] 25 (0, 0)) (by (with_reducible repeat (first | refine qN ?_ _ | refine qD ?_ | refine qA ?_ _)); exact BK502.out) hb); have n1_ := Aside0.mk (below_step (by repeat (first | (with_reducible first | exact HB.out | apply pA | apply pN | apply pD | refine pS ?_ GE502.out) | exact HB.out)) hb); clear BK502; clear HB; have BK502 := n0_; have HB := n1_; clear n0_ n1_; (try clear hb); (try clear hb2); (try clear hk); (try clear hi); have hcz12_0 : w11.cell? ⟨gb502, 0, none⟩ = some (.slice A0_0 l0_0.length c0_0) := (blk_cell BK502.out 0).trans rfl; have hcz12_1 : w11.cell? ⟨gb502, 1, none⟩ = some (.slice A0_1 l0_1.length c0_1) := (blk_cell BK502.out 1).trans rfl; have hfz12_0 := blk_frozen BK502.out 0; have hfz12_1 := blk_frozen BK502.out 1) | (go_at_call 11; (with_reducible refine (portreeveref03_Right.calls k _ _ l0_0 _ _ l0_1 t505 _ ?side1 ?side2 ?side3 ?side4 A9.out).mono ?_); (case side1 => repeat (first | exact (Kd.C_below HR0_0.out HB.out) | (with_reducible refine Kd.C_alloc ?_ _) | (with_reducible refine Kd.C_drewN ?_ _) | (with_reducible refine Kd.C_drew ?_))); (case side2 => exact HC0_0.out); (case side3 => repeat (first | exact (Kd.C_below HR0_1.out HB.out) | (with_reducible refine Kd.C_alloc ?_ _) | (with_reducible refine Kd.C_drewN ?_ _) | (with_reducible refine Kd.C_drew ?_))); (case side4 => exact HC0_1.out); rintro e w13 ⟨rfl, hb⟩; have n0_ := Aside0.mk (blk_below (g := gb502) (o := .cells #[.slice A0_0 l0_0.length c0_0, .slice A0_1 l0_1.length c0_1] 25 (0, 0)) (by (with_reducible repeat (first | refine qN ?_ _ | refine qD ?_ | refine qA ?_ _)); exact BK502.out) hb); have n1_ := Aside0.mk (below_step (by repeat (first | (with_reducible first | exact HB.out | apply pA | apply pN | apply pD | refine pS ?_ GE502.out) | exact HB.out)) hb); clear BK502; clear HB; have BK502 := n0_; have HB := n1_; clear n0_ n1_; (try clear hb); (try clear hb2); (try clear hk); (try clear hi))); try go_wp2_with (first | (go_at_call 10; (with_reducible refine (portreeveref03_Small.calls k _ _ l0_0 _ _ l0_1 true _ ?side1 ?side2 ?side3 ?side4 A7.out).mono ?_); (case side1 => repeat (first | exact (Kd.C_below HR0_0.out HB.out) | (with_reducible refine Kd.C_alloc ?_ _) | (with_reducible refine Kd.C_drewN ?_ _) | (with_reducible refine Kd.C_drew ?_))); (case side2 => exact HC0_0.out); (case side3 => repeat (first | exact (Kd.C_below HR0_1.out HB.out) | (with_reducible refine Kd.C_alloc ?_ _) | (with_reducible refine Kd.C_drewN ?_ _) | (with_reducible refine Kd.C_drew ?_))); (case side4 => exact HC0_1.out); rintro e w11 ⟨rfl, hb⟩; have n0_ := Aside0.mk (blk_below (g := gb502) (o := .cells #[.slice A0_0 l0_0.length c0_0, .slice A0_1 l0_1.length c0_1] 25 (0, 0)) (by (with_reducible repeat (first | refine qN ?_ _ | refine qD ?_ | refine qA ?_ _)); exact BK502.out) hb); have n1_ := Aside0.mk (below_step (by repeat (first | (with_reducible first | exact HB.out | apply pA | apply pN | apply pD | refine pS ?_ GE502.out) | exact HB.out)) hb); clear BK502; clear HB; have BK502 := n0_; have HB := n1_; clear n0_ n1_; (try clear hb); (try clear hb2); (try clear hk); (try clear hi); have hcz12_0 : w11.cell? ⟨gb502, 0, none⟩ = some (.slice A0_0 l0_0.length c0_0) := (blk_cell BK502.out 0).trans rfl; have hcz12_1 : w11.cell? ⟨gb502, 1, none⟩ = some (.slice A0_1 l0_1.length c0_1) := (blk_cell BK502.out 1).trans rfl; have hfz12_0 := blk_frozen BK502.out 0; have hfz12_1 := blk_frozen BK502.out 1) | (go_at_call 11; (with_reducible refine (portreeveref03_Right.calls k _ _ l0_0 _ _ l0_1 t505 _ ?side1 ?side2 ?side3 ?side4 A9.out).mono ?_); (case side1 => repeat (first | exact (Kd.C_below HR0_0.out HB.out) | (with_reducible refine Kd.C_alloc ?_ _) | (with_reducible refine Kd.C_drewN ?_ _) | (with_reducible refine Kd.C_drew ?_))); (case side2 => exact HC0_0.out); (case side3 => repeat (first | exact (Kd.C_below HR0_1.out HB.out) | (with_reducible refine Kd.C_alloc ?_ _) | (with_reducible refine Kd.C_drewN ?_ _) | (with_reducible refine Kd.C_drew ?_))); (case side4 => exact HC0_1.out); rintro e w13 ⟨rfl, hb⟩; have n0_ := Aside0.mk (blk_below (g := gb502) (o := .cells #[.slice A0_0 l0_0.length c0_0, .slice A0_1 l0_1.length c0_1] 25 (0, 0)) (by (with_reducible repeat (first | refine qN ?_ _ | refine qD ?_ | refine qA ?_ _)); exact BK502.out) hb); have n1_ := Aside0.mk (below_step (by repeat (first | (with_reducible first | exact HB.out | apply pA | apply pN | apply pD | refine pS ?_ GE502.out) | exact HB.out)) hb); clear BK502; clear HB; have BK502 := n0_; have HB := n1_; clear n0_ n1_; (try clear hb); (try clear hb2); (try clear hk); (try clear hi))))
      go_meet
      case rel => exact ⟨_, (!t505), (by first | rfl | (simp; done) | (simp [*]; done)), H', ⟨by first | omega | exact Nat.le_refl _⟩, ⟨by (with_reducible repeat (first | refine qN ?_ _ | refine qD ?_ | refine qA ?_ _)); exact BK502.out⟩, ⟨by repeat (first | (with_reducible first | exact HB.out | apply pA | apply pN | apply pD | refine pS ?_ GE502.out) | exact HB.out)⟩⟩
    · replace c8 := Bool.eq_false_iff.mpr c8
      subst c8
      have H1 : (portreevelaw03_DiskNone.j0 k a1 t503 true l0_0 l0_1) = some r := by rw [if_neg (show ¬ (false = true) by decide)] at H; exact H
      clear H
      have H := H1
      clear H1
      have H' := Aside0.mk H
      clear H
      have hcz14_0 : w6.cell? ⟨gb502, 0, none⟩ = some (.slice A0_0 l0_0.length c0_0) := (blk_cell BK502.out 0).trans rfl
      have hcz14_1 : w6.cell? ⟨gb502, 1, none⟩ = some (.slice A0_1 l0_1.length c0_1) := (blk_cell BK502.out 1).trans rfl
      have hfz14_0 := blk_frozen BK502.out 0
      have hfz14_1 := blk_frozen BK502.out 1
      go_wp2_with (first | (go_at_call 10; (with_reducible refine (portreeveref03_Small.calls k _ _ l0_0 _ _ l0_1 false _ ?side1 ?side2 ?side3 ?side4 A7.out).mono ?_); (case side1 => repeat (first | exact (Kd.C_below HR0_0.out HB.out) | (with_reducible refine Kd.C_alloc ?_ _) | (with_reducible refine Kd.C_drewN ?_ _) | (with_reducible refine Kd.C_drew ?_))); (case side2 => exact HC0_0.out); (case side3 => repeat (first | exact (Kd.C_below HR0_1.out HB.out) | (with_reducible refine Kd.C_alloc ?_ _) | (with_reducible refine Kd.C_drewN ?_ _) | (with_reducible refine Kd.C_drew ?_))); (case side4 => exact HC0_1.out); rintro e w15 ⟨rfl, hb⟩; have n0_ := Aside0.mk (blk_below (g := gb502) (o := .cells #[.slice A0_0 l0_0.length c0_0, .slice A0_1 l0_1.length c0_1] 25 (0, 0)) (by (with_reducible repeat (first | refine qN ?_ _ | refine qD ?_ | refine qA ?_ _)); exact BK502.out) hb); have n1_ := Aside0.mk (below_step (by repeat (first | (with_reducible first | exact HB.out | apply pA | apply pN | apply pD | refine pS ?_ GE502.out) | exact HB.out)) hb); clear BK502; clear HB; have BK502 := n0_; have HB := n1_; clear n0_ n1_; (try clear hb); (try clear hb2); (try clear hk); (try clear hi)))
      repeat (go_quiet (first | (go_at_call 10; (with_reducible refine (portreeveref03_Small.calls k _ _ l0_0 _ _ l0_1 false _ ?side1 ?side2 ?side3 ?side4 A7.out).mono ?_); (case side1 => repeat (first | exact (Kd.C_below HR0_0.out HB.out) | (with_reducible refine Kd.C_alloc ?_ _) | (with_reducible refine Kd.C_drewN ?_ _) | (with_reducible refine Kd.C_drew ?_))); (case side2 => exact HC0_0.out); (case side3 => repeat (first | exact (Kd.C_below HR0_1.out HB.out) | (with_reducible refine Kd.C_alloc ?_ _) | (with_reducible refine Kd.C_drewN ?_ _) | (with_reducible refine Kd.C_drew ?_))); (case side4 => exact HC0_1.out); rintro e w15 ⟨rfl, hb⟩; have n0_ := Aside0.mk (blk_below (g := gb502) (o := .cells #[.slice A0_0 l0_0.length c0_0, .slice A0_1 l0_1.length c0_1] 25 (0, 0)) (by (with_reducible repeat (first | refine qN ?_ _ | refine qD ?_ | refine qA ?_ _)); exact BK502.out) hb); have n1_ := Aside0.mk (below_step (by repeat (first | (with_reducible first | exact HB.out | apply pA | apply pN | apply pD | refine pS ?_ GE502.out) | exact HB.out)) hb); clear BK502; clear HB; have BK502 := n0_; have HB := n1_; clear n0_ n1_; (try clear hb); (try clear hb2); (try clear hk); (try clear hi))); try go_wp2_with (first | (go_at_call 10; (with_reducible refine (portreeveref03_Small.calls k _ _ l0_0 _ _ l0_1 false _ ?side1 ?side2 ?side3 ?side4 A7.out).mono ?_); (case side1 => repeat (first | exact (Kd.C_below HR0_0.out HB.out) | (with_reducible refine Kd.C_alloc ?_ _) | (with_reducible refine Kd.C_drewN ?_ _) | (with_reducible refine Kd.C_drew ?_))); (case side2 => exact HC0_0.out); (case side3 => repeat (first | exact (Kd.C_below HR0_1.out HB.out) | (with_reducible refine Kd.C_alloc ?_ _) | (with_reducible refine Kd.C_drewN ?_ _) | (with_reducible refine Kd.C_drew ?_))); (case side4 => exact HC0_1.out); rintro e w15 ⟨rfl, hb⟩; have n0_ := Aside0.mk (blk_below (g := gb502) (o := .cells #[.slice A0_0 l0_0.length c0_0, .slice A0_1 l0_1.length c0_1] 25 (0, 0)) (by (with_reducible repeat (first | refine qN ?_ _ | refine qD ?_ | refine qA ?_ _)); exact BK502.out) hb); have n1_ := Aside0.mk (below_step (by repeat (first | (with_reducible first | exact HB.out | apply pA | apply pN | apply pD | refine pS ?_ GE502.out) | exact HB.out)) hb); clear BK502; clear HB; have BK502 := n0_; have HB := n1_; clear n0_ n1_; (try clear hb); (try clear hb2); (try clear hk); (try clear hi))))
      go_meet
      case rel => exact ⟨_, (true), (by first | rfl | (simp; done) | (simp [*]; done)), H', ⟨by first | omega | exact Nat.le_refl _⟩, ⟨by (with_reducible repeat (first | refine qN ?_ _ | refine qD ?_ | refine qA ?_ _)); exact BK502.out⟩, ⟨by repeat (first | (with_reducible first | exact HB.out | apply pA | apply pN | apply pD | refine pS ?_ GE502.out) | exact HB.out)⟩⟩
  case rest =>
    clear HC4
    try clear p2
    try clear c8
    try clear hcz10_0
    try clear hcz10_1
    try clear hcz12_0
    try clear hcz12_1
    try clear hcz14_0
    try clear hcz14_1
    try clear hfz10_0
    try clear hfz10_1
    try clear hfz12_0
    try clear hfz12_1
    try clear hfz14_0
    try clear hfz14_1
    obtain ⟨kq, x18_3, rfl, HA, HJ3, BK502, HB⟩ := hcut
    cases kq with
    | zero => exact absurd HA.out (by simp [portreevelaw03_DiskNone.j0])
    | succ kj3 =>
      have H := HA.out
      clear HA
      simp only [portreevelaw03_DiskNone.j0] at H
      by_cases c16 : x18_3 = true
      · subst c16
        have H1 : (some t503) = some r := by rw [if_pos rfl] at H; exact H
        clear H
        have H := H1
        clear H1
        clear hlaw_
        obtain rfl := Option.some.inj H
        go_wp2
        repeat (go_quiet (fail); try go_wp2)
        go_ret
        exact ⟨by first | rfl | (simp [errW_none, errW_some] <;> rfl) | (simp [*, errW_none, errW_some] <;> rfl), by repeat (first | (with_reducible first | exact HB.out | apply pA | apply pN | apply pD | refine pS ?_ GE502.out) | exact HB.out)⟩
      · replace c16 := Bool.eq_false_iff.mpr c16
        subst c16
        have H1 : ((disk_Crash.f kj3 l0_0 l0_1 ([] : List Bool)).bind fun bt506 => ((disk_New.f kj3).bind fun bt513 => ((disk_Read.f kj3 bt513.1 bt513.2 a1).bind fun bt519 => (if (bt506.1.length : Int) = (l0_0.length : Int) then (portreevelaw03_DiskNone.j1 kj3 a1 t503 bt519.1 bt519.2 ((bt506.2.length : Int) != 0) l0_0 l0_1 bt506.1 bt506.2) else (portreevelaw03_DiskNone.j1 kj3 a1 t503 bt519.1 bt519.2 true l0_0 l0_1 bt506.1 bt506.2))))) = some r := by rw [if_neg (show ¬ (false = true) by decide)] at H; exact H
        clear H
        have H := H1
        clear H1
        replace H := Option.bind_eq_some_iff.mp H
        obtain ⟨⟨t506, t509⟩, A170, H⟩ := H
        replace H : ((disk_New.f kj3).bind fun bt513 => ((disk_Read.f kj3 bt513.1 bt513.2 a1).bind fun bt519 => (if (t506.length : Int) = (l0_0.length : Int) then (portreevelaw03_DiskNone.j1 kj3 a1 t503 bt519.1 bt519.2 ((t509.length : Int) != 0) l0_0 l0_1 t506 t509) else (portreevelaw03_DiskNone.j1 kj3 a1 t503 bt519.1 bt519.2 true l0_0 l0_1 t506 t509)))) = some r := H
        have A17 := Aside0.mk A170
        clear A170
        replace H := Option.bind_eq_some_iff.mp H
        obtain ⟨⟨t513, t516⟩, A180, H⟩ := H
        replace H : ((disk_Read.f kj3 t513 t516 a1).bind fun bt519 => (if (t506.length : Int) = (l0_0.length : Int) then (portreevelaw03_DiskNone.j1 kj3 a1 t503 bt519.1 bt519.2 ((t509.length : Int) != 0) l0_0 l0_1 t506 t509) else (portreevelaw03_DiskNone.j1 kj3 a1 t503 bt519.1 bt519.2 true l0_0 l0_1 t506 t509))) = some r := H
        have A18 := Aside0.mk A180
        clear A180
        replace H := Option.bind_eq_some_iff.mp H
        obtain ⟨⟨t519, t522⟩, A190, H⟩ := H
        replace H : (if (t506.length : Int) = (l0_0.length : Int) then (portreevelaw03_DiskNone.j1 kj3 a1 t503 t519 t522 ((t509.length : Int) != 0) l0_0 l0_1 t506 t509) else (portreevelaw03_DiskNone.j1 kj3 a1 t503 t519 t522 true l0_0 l0_1 t506 t509)) = some r := H
        have A19 := Aside0.mk A190
        clear A190
        have HC20 := Aside0.mk H
        clear H
        have hcz21_0 : wc.cell? ⟨gb502, 0, none⟩ = some (.slice A0_0 l0_0.length c0_0) := (blk_cell BK502.out 0).trans rfl
        have hcz21_1 : wc.cell? ⟨gb502, 1, none⟩ = some (.slice A0_1 l0_1.length c0_1) := (blk_cell BK502.out 1).trans rfl
        have hfz21_0 := blk_frozen BK502.out 0
        have hfz21_1 := blk_frozen BK502.out 1
        go_upto_region 6 with (first | (go_at_call 20; (refine (disk_Crash.calls kj3 (fun k_ => k_ < w.heap.size) _ _ l0_0 (fun k_ => k_ < w.heap.size) _ _ l0_1 _ _ ([] : List Bool) t506 t509 _ ?side1 ?side2 ?side3 ?side4 A17.out).mono ?_); (case side1 => exact Kd.V_mk HC0_0.out (Kd.F_below (Kd.C_F (Kd.heap_slice 5 (Kd.heap_int .u8)) HR0_0.out) (by repeat (first | (with_reducible first | exact HB.out | apply pA | apply pN | apply pD | refine pS ?_ GE502.out) | exact HB.out)))); (case side2 => exact Kd.V_mk HC0_1.out (Kd.F_below (Kd.C_F k47_heap HR0_1.out) (by repeat (first | (with_reducible first | exact HB.out | apply pA | apply pN | apply pD | refine pS ?_ GE502.out) | exact HB.out)))); (case side3 => exact Kd.C_nil _ _); (case side4 => exact Nat.le_refl _); rintro e w22 ⟨v507, v510, rfl, ho0, ho1, hb⟩; have n0_ := Aside0.mk (Kd.N_lower (Kd.N_mono (ok' := fun k_ => some k_ ≠ (v510 : Value).ownBlock ∧ k_ ≠ gb502) ho0 (fun k_ hk_ => ⟨hk_.2, Or.elim hk_.1 (fun hs_ => Or.elim hs_ (fun hs_ => fun e_ => Nat.not_le.2 hs_ (by rw [e_]; exact GW502.out)) (fun hs_ => fun e_ => Nat.not_le.2 hs_ (by rw [e_]; exact GW502.out))) (fun hn_ => (Kd.freshB (g := gb502) (o := .cells #[.slice A0_0 l0_0.length c0_0, .slice A0_1 l0_1.length c0_1] 25 (0, 0)) (by (with_reducible repeat (first | refine qN ?_ _ | refine qD ?_ | refine qA ?_ _)); exact BK502.out) k_ hn_))⟩)) (below_size (by repeat (first | (with_reducible first | exact HB.out | apply pA | apply pN | apply pD | refine pS ?_ GE502.out) | exact HB.out)))); have n1_ := Aside0.mk (Kd.N_lower (Kd.N_mono (ok' := fun k_ => some k_ ≠ (v507 : Value).ownBlock ∧ k_ ≠ gb502) ho1 (fun k_ hk_ => ⟨hk_.2, Or.elim hk_.1 (fun hs_ => Or.elim hs_ (fun hs_ => fun e_ => Nat.not_le.2 hs_ (by rw [e_]; exact GW502.out)) (fun hs_ => fun e_ => Nat.not_le.2 hs_ (by rw [e_]; exact GW502.out))) (fun hn_ => (Kd.freshB (g := gb502) (o := .cells #[.slice A0_0 l0_0.length c0_0, .slice A0_1 l0_1.length c0_1] 25 (0, 0)) (by (with_reducible repeat (first | refine qN ?_ _ | refine qD ?_ | refine qA ?_ _)); exact BK502.out) k_ hn_))⟩)) (below_size (by repeat (first | (with_reducible first | exact HB.out | apply pA | apply pN | apply pD | refine pS ?_ GE502.out) | exact HB.out)))); have n2_ := Aside0.mk (blk_below (g := gb502) (o := .cells #[.slice A0_0 l0_0.length c0_0, .slice A0_1 l0_1.length c0_1] 25 (0, 0)) (by (with_reducible repeat (first | refine qN ?_ _ | refine qD ?_ | refine qA ?_ _)); exact BK502.out) hb); have n3_ := Aside0.mk (below_step (by repeat (first | (with_reducible first | exact HB.out | apply pA | apply pN | apply pD | refine pS ?_ GE502.out) | exact HB.out)) hb); clear BK502; clear HB; have HO508 := n0_; have HO511 := n1_; have BK502 := n2_; have HB := n3_; clear n0_ n1_ n2_ n3_; (try clear hb); (try clear hb2); (try clear hk); (try clear hi); (try clear ho0); (try clear ho1)) | ((with_reducible refine gate_dst (N := 6) rfl ?_); (try (refine gate_guard (by rfl) ?_; dsimp only)); refine box_event ?hg (N := 6) ?hd (cs := #[.slice none 0 0, .slice none 0 0]) (t := 25) ?hr ?_; (case hd => rfl); (case hg => rfl); (case hr => first | (go_simp; done) | (go_simp; rfl)); intro gb512 hg w23 hbox hb; have n0_ := Aside0.mk (Kd.N_below (Kd.N_elderB (by (with_reducible repeat (first | apply Kd.N_alloc | apply Kd.N_drewN | apply Kd.N_drew)); exact HO508.out) gb512 (Nat.le_of_eq hg.symm)) hb); have n1_ := Aside0.mk (Kd.N_below (Kd.N_elderB (by (with_reducible repeat (first | apply Kd.N_alloc | apply Kd.N_drewN | apply Kd.N_drew)); exact HO511.out) gb512 (Nat.le_of_eq hg.symm)) hb); have n2_ := Aside0.mk (blk_below (g := gb502) (o := .cells #[.slice A0_0 l0_0.length c0_0, .slice A0_1 l0_1.length c0_1] 25 (0, 0)) (by (with_reducible repeat (first | refine qN ?_ _ | refine qD ?_ | refine qA ?_ _)); exact BK502.out) hb); have n3_ := Aside0.mk (below_step (by repeat (first | (with_reducible first | exact HB.out | apply pA | apply pN | apply pD | refine pS ?_ GE502.out) | exact HB.out)) hb); have n4_ := Aside0.mk (hbox); have n5_ := Aside0.mk ((by rw [hg]; exact (below_size (by repeat (first | (with_reducible first | exact HB.out | apply pA | apply pN | apply pD | refine pS ?_ GE502.out) | exact HB.out))) : w.heap.size ≤ gb512)); have n6_ := Aside0.mk ((by rw [hg]; exact (below_size (by repeat (first | (with_reducible first | exact HB.out | apply pA | apply pN | apply pD | refine pS ?_ GE502.out) | exact HB.out))) : w.heap.size ≤ gb512)); have n7_ := Aside0.mk ((by rw [hg]; exact Nat.ne_of_lt (blk_lt (g := gb502) (o := .cells #[.slice A0_0 l0_0.length c0_0, .slice A0_1 l0_1.length c0_1] 25 (0, 0)) (by (with_reducible repeat (first | refine qN ?_ _ | refine qD ?_ | refine qA ?_ _)); exact BK502.out)) : gb502 ≠ gb512)); have n8_ := Aside0.mk ((by rw [hg]; exact Nat.ne_of_gt (blk_lt (g := gb502) (o := .cells #[.slice A0_0 l0_0.length c0_0, .slice A0_1 l0_1.length c0_1] 25 (0, 0)) (by (with_reducible repeat (first | refine qN ?_ _ | refine qD ?_ | refine qA ?_ _)); exact BK502.out)) : gb512 ≠ gb502)); clear HO508; clear HO511; clear BK502; clear HB; have HO508 := n0_; have HO511 := n1_; have BK502 := n2_; have HB := n3_; have BK512 := n4_; have GW512 := n5_; have GE512 := n6_; have NB502_512 := n7_; have NB512_502 := n8_; clear n0_ n1_ n2_ n3_ n4_ n5_ n6_ n7_ n8_; clear hb hbox hg; obtain ⟨Ao24, co24, eo24⟩ := Kd.N_slice HO508.out; subst eo24; have hnb25 := NB512_502.out; have hnc25 := NB502_512.out; have hcz26_0 : w23.cell? ⟨gb512, 0, none⟩ = some (.slice none 0 0) := (blk_cell BK512.out 0).trans rfl; have hcz26_1 : w23.cell? ⟨gb512, 1, none⟩ = some (.slice none 0 0) := (blk_cell BK512.out 1).trans rfl; have hfz26_0 := blk_frozen BK512.out 0; have hfz26_1 := blk_frozen BK512.out 1; obtain ⟨Ao27, co27, eo27⟩ := Kd.N_slice HO511.out; subst eo27) | (go_at_call 23; (with_reducible refine (disk_New.calls kj3  t513 t516 _ A18.out).mono ?_); rintro e w28 ⟨v514, v517, rfl, ho0, ho1, hb⟩; have n0_ := Aside0.mk (Kd.N_mono (Kd.N_told (Kd.N_told (Kd.N_old (by (with_reducible repeat (first | apply Kd.N_alloc | apply Kd.N_drewN | apply Kd.N_drew)); exact (Kd.N_mono (Kd.N_far (p := ⟨gb512, 1, none⟩) (Kd.N_far (p := ⟨gb512, 0, none⟩) (Kd.N_mono HO508.out (fun k_ hk => (⟨hk, hk.2⟩ : _ ∧ k_ ≠ gb512))) (fun _ hk => hk.2) (.slice Ao24 t506.length co24)) (fun _ hk => hk.2) (.slice Ao27 t509.length co27)) (fun _ h_ => h_.1))) hb) (Kd.N_base ho0)) (Kd.N_base ho1)) (fun _ h_ => h_.1)); have n1_ := Aside0.mk (Kd.N_mono (Kd.N_told (Kd.N_told (Kd.N_old (by (with_reducible repeat (first | apply Kd.N_alloc | apply Kd.N_drewN | apply Kd.N_drew)); exact (Kd.N_mono (Kd.N_far (p := ⟨gb512, 1, none⟩) (Kd.N_far (p := ⟨gb512, 0, none⟩) (Kd.N_mono HO511.out (fun k_ hk => (⟨hk, hk.2⟩ : _ ∧ k_ ≠ gb512))) (fun _ hk => hk.2) (.slice Ao24 t506.length co24)) (fun _ hk => hk.2) (.slice Ao27 t509.length co27)) (fun _ h_ => h_.1))) hb) (Kd.N_base ho0)) (Kd.N_base ho1)) (fun _ h_ => h_.1)); have n2_ := Aside0.mk (Kd.N_lower (Kd.N_mono (ok' := fun k_ => some k_ ≠ (v517 : Value).ownBlock ∧ some k_ ≠ (.slice Ao24 t506.length co24 : Value).ownBlock ∧ some k_ ≠ (.slice Ao27 t509.length co27 : Value).ownBlock ∧ k_ ≠ gb502 ∧ k_ ≠ gb512) ho0 (fun k_ hk_ => ⟨hk_.2, (Kd.fresh' (Kd.N_lt (by (with_reducible repeat (first | apply Kd.N_alloc | apply Kd.N_drewN | apply Kd.N_drew)); exact (Kd.N_mono (Kd.N_far (p := ⟨gb512, 1, none⟩) (Kd.N_far (p := ⟨gb512, 0, none⟩) (Kd.N_mono HO508.out (fun k_ hk => (⟨hk, hk.2⟩ : _ ∧ k_ ≠ gb512))) (fun _ hk => hk.2) (.slice Ao24 t506.length co24)) (fun _ hk => hk.2) (.slice Ao27 t509.length co27)) (fun _ h_ => h_.1)))) k_ hk_.1), (Kd.fresh' (Kd.N_lt (by (with_reducible repeat (first | apply Kd.N_alloc | apply Kd.N_drewN | apply Kd.N_drew)); exact (Kd.N_mono (Kd.N_far (p := ⟨gb512, 1, none⟩) (Kd.N_far (p := ⟨gb512, 0, none⟩) (Kd.N_mono HO511.out (fun k_ hk => (⟨hk, hk.2⟩ : _ ∧ k_ ≠ gb512))) (fun _ hk => hk.2) (.slice Ao24 t506.length co24)) (fun _ hk => hk.2) (.slice Ao27 t509.length co27)) (fun _ h_ => h_.1)))) k_ hk_.1), (Kd.freshB (g := gb502) (o := .cells #[.slice A0_0 l0_0.length c0_0, .slice A0_1 l0_1.length c0_1] 25 (0, 0)) (by (with_reducible repeat (first | refine qN ?_ _ | refine qD ?_ | refine qA ?_ _)); refine blk_far ?_ NB502_512.out _; (with_reducible repeat (first | refine qN ?_ _ | refine qD ?_ | refine qA ?_ _)); refine blk_far ?_ NB502_512.out _; (with_reducible repeat (first | refine qN ?_ _ | refine qD ?_ | refine qA ?_ _)); exact BK502.out) k_ hk_.1), (Kd.freshB (g := gb512) (o := .cells #[.slice Ao24 t506.length co24, .slice Ao27 t509.length co27] 25 (0, 0)) (by (with_reducible repeat (first | refine qN ?_ _ | refine qD ?_ | refine qA ?_ _)); refine blk_put (cs := #[.slice Ao24 t506.length co24, .slice none 0 0]) ?_ 1 _ rfl; (with_reducible repeat (first | refine qN ?_ _ | refine qD ?_ | refine qA ?_ _)); refine blk_put (cs := #[.slice none 0 0, .slice none 0 0]) ?_ 0 _ rfl; (with_reducible repeat (first | refine qN ?_ _ | refine qD ?_ | refine qA ?_ _)); exact BK512.out) k_ hk_.1)⟩)) (below_size (by repeat (first | (with_reducible first | exact HB.out | apply pA | apply pN | apply pD | refine pS ?_ GE502.out | refine pS ?_ GE512.out) | exact HB.out)))); have n3_ := Aside0.mk (Kd.N_lower (Kd.N_mono (ok' := fun k_ => some k_ ≠ (v514 : Value).ownBlock ∧ some k_ ≠ (.slice Ao24 t506.length co24 : Value).ownBlock ∧ some k_ ≠ (.slice Ao27 t509.length co27 : Value).ownBlock ∧ k_ ≠ gb502 ∧ k_ ≠ gb512) ho1 (fun k_ hk_ => ⟨hk_.2, (Kd.fresh' (Kd.N_lt (by (with_reducible repeat (first | apply Kd.N_alloc | apply Kd.N_drewN | apply Kd.N_drew)); exact (Kd.N_mono (Kd.N_far (p := ⟨gb512, 1, none⟩) (Kd.N_far (p := ⟨gb512, 0, none⟩) (Kd.N_mono HO508.out (fun k_ hk => (⟨hk, hk.2⟩ : _ ∧ k_ ≠ gb512))) (fun _ hk => hk.2) (.slice Ao24 t506.length co24)) (fun _ hk => hk.2) (.slice Ao27 t509.length co27)) (fun _ h_ => h_.1)))) k_ hk_.1), (Kd.fresh' (Kd.N_lt (by (with_reducible repeat (first | apply Kd.N_alloc | apply Kd.N_drewN | apply Kd.N_drew)); exact (Kd.N_mono (Kd.N_far (p := ⟨gb512, 1, none⟩) (Kd.N_far (p := ⟨gb512, 0, none⟩) (Kd.N_mono HO511.out (fun k_ hk => (⟨hk, hk.2⟩ : _ ∧ k_ ≠ gb512))) (fun _ hk => hk.2) (.slice Ao24 t506.length co24)) (fun _ hk => hk.2) (.slice Ao27 t509.length co27)) (fun _ h_ => h_.1)))) k_ hk_.1), (Kd.freshB (g := gb502) (o := .cells #[.slice A0_0 l0_0.length c0_0, .slice A0_1 l0_1.length c0_1] 25 (0, 0)) (by (with_reducible repeat (first | refine qN ?_ _ | refine qD ?_ | refine qA ?_ _)); refine blk_far ?_ NB502_512.out _; (with_reducible repeat (first | refine qN ?_ _ | refine qD ?_ | refine qA ?_ _)); refine blk_far ?_ NB502_512.out _; (with_reducible repeat (first | refine qN ?_ _ | refine qD ?_ | refine qA ?_ _)); exact BK502.out) k_ hk_.1), (Kd.freshB (g := gb512) (o := .cells #[.slice Ao24 t506.length co24, .slice Ao27 t509.length co27] 25 (0, 0)) (by (with_reducible repeat (first | refine qN ?_ _ | refine qD ?_ | refine qA ?_ _)); refine blk_put (cs := #[.slice Ao24 t506.length co24, .slice none 0 0]) ?_ 1 _ rfl; (with_reducible repeat (first | refine qN ?_ _ | refine qD ?_ | refine qA ?_ _)); refine blk_put (cs := #[.slice none 0 0, .slice none 0 0]) ?_ 0 _ rfl; (with_reducible repeat (first | refine qN ?_ _ | refine qD ?_ | refine qA ?_ _)); exact BK512.out) k_ hk_.1)⟩)) (below_size (by repeat (first | (with_reducible first | exact HB.out | apply pA | apply pN | apply pD | refine pS ?_ GE502.out | refine pS ?_ GE512.out) | exact HB.out)))); have n4_ := Aside0.mk (blk_below (g := gb502) (o := .cells #[.slice A0_0 l0_0.length c0_0, .slice A0_1 l0_1.length c0_1] 25 (0, 0)) (by (with_reducible repeat (first | refine qN ?_ _ | refine qD ?_ | refine qA ?_ _)); refine blk_far ?_ NB502_512.out _; (with_reducible repeat (first | refine qN ?_ _ | refine qD ?_ | refine qA ?_ _)); refine blk_far ?_ NB502_512.out _; (with_reducible repeat (first | refine qN ?_ _ | refine qD ?_ | refine qA ?_ _)); exact BK502.out) hb); have n5_ := Aside0.mk (blk_below (g := gb512) (o := .cells #[.slice Ao24 t506.length co24, .slice Ao27 t509.length co27] 25 (0, 0)) (by (with_reducible repeat (first | refine qN ?_ _ | refine qD ?_ | refine qA ?_ _)); refine blk_put (cs := #[.slice Ao24 t506.length co24, .slice none 0 0]) ?_ 1 _ rfl; (with_reducible repeat (first | refine qN ?_ _ | refine qD ?_ | refine qA ?_ _)); refine blk_put (cs := #[.slice none 0 0, .slice none 0 0]) ?_ 0 _ rfl; (with_reducible repeat (first | refine qN ?_ _ | refine qD ?_ | refine qA ?_ _)); exact BK512.out) hb); have n6_ := Aside0.mk (below_step (by repeat (first | (with_reducible first | exact HB.out | apply pA | apply pN | apply pD | refine pS ?_ GE502.out | refine pS ?_ GE512.out) | exact HB.out)) hb); clear HO508; clear HO511; clear BK502; clear BK512; clear HB; have HO508 := n0_; have HO511 := n1_; have HO515 := n2_; have HO518 := n3_; have BK502 := n4_; have BK512 := n5_; have HB := n6_; clear n0_ n1_ n2_ n3_ n4_ n5_ n6_; (try clear hb); (try clear hb2); (try clear hk); (try clear hi); (try clear ho0); (try clear ho1); obtain ⟨Ao29, co29, eo29⟩ := Kd.N_slice HO515.out; subst eo29; obtain ⟨Ao30, co30, eo30⟩ := Kd.N_slice HO518.out; subst eo30) | (go_at_call 14; (with_reducible refine (disk_Read.calls kj3 (fun k_ => (some k_ ≠ (.slice Ao30 t516.length co30 : Value).ownBlock ∧ (some k_ ≠ (.slice Ao24 t506.length co24 : Value).ownBlock ∧ (some k_ ≠ (.slice Ao27 t509.length co27 : Value).ownBlock ∧ (k_ ≠ gb502 ∧ k_ ≠ gb512))))) _ _ t513 (fun k_ => (some k_ ≠ (.slice Ao29 t513.length co29 : Value).ownBlock ∧ (some k_ ≠ (.slice Ao24 t506.length co24 : Value).ownBlock ∧ (some k_ ≠ (.slice Ao27 t509.length co27 : Value).ownBlock ∧ (k_ ≠ gb502 ∧ k_ ≠ gb512))))) _ _ t516 a1 t519 t522 _ ?side1 ?side2 A19.out).mono ?_); (case side1 => exact Kd.N_V (HO515.out)); (case side2 => exact Kd.N_V (HO518.out)); rintro e w31 ⟨v520, rfl, ho0, hb⟩; have n0_ := Aside0.mk (Kd.N_elder' (by (with_reducible repeat (first | apply Kd.N_alloc | apply Kd.N_drewN | apply Kd.N_drew)); exact HO508.out) (Kd.R_base ho0) hb); have n1_ := Aside0.mk (Kd.N_elder' (by (with_reducible repeat (first | apply Kd.N_alloc | apply Kd.N_drewN | apply Kd.N_drew)); exact HO511.out) (Kd.R_base ho0) hb); have n2_ := Aside0.mk (Kd.N_elder' (by (with_reducible repeat (first | apply Kd.N_alloc | apply Kd.N_drewN | apply Kd.N_drew)); exact HO515.out) (Kd.R_base ho0) hb); have n3_ := Aside0.mk (Kd.N_elder' (by (with_reducible repeat (first | apply Kd.N_alloc | apply Kd.N_drewN | apply Kd.N_drew)); exact HO518.out) (Kd.R_base ho0) hb); have n4_ := Aside0.mk (Kd.R_lower (Kd.R_mono (ok' := fun k_ => True) ho0 (fun _ hk_ => trivial)) (below_size (by repeat (first | (with_reducible first | exact HB.out | apply pA | apply pN | apply pD | refine pS ?_ GE502.out | refine pS ?_ GE512.out) | exact HB.out)))); have n5_ := Aside0.mk (blk_below (g := gb502) (o := .cells #[.slice A0_0 l0_0.length c0_0, .slice A0_1 l0_1.length c0_1] 25 (0, 0)) (by (with_reducible repeat (first | refine qN ?_ _ | refine qD ?_ | refine qA ?_ _)); exact BK502.out) hb); have n6_ := Aside0.mk (blk_below (g := gb512) (o := .cells #[.slice Ao24 t506.length co24, .slice Ao27 t509.length co27] 25 (0, 0)) (by (with_reducible repeat (first | refine qN ?_ _ | refine qD ?_ | refine qA ?_ _)); exact BK512.out) hb); have n7_ := Aside0.mk (below_step (by repeat (first | (with_reducible first | exact HB.out | apply pA | apply pN | apply pD | refine pS ?_ GE502.out | refine pS ?_ GE512.out) | exact HB.out)) hb); clear HO508; clear HO511; clear HO515; clear HO518; clear BK502; clear BK512; clear HB; have HO508 := n0_; have HO511 := n1_; have HO515 := n2_; have HO518 := n3_; have HO521 := n4_; have BK502 := n5_; have BK512 := n6_; have HB := n7_; clear n0_ n1_ n2_ n3_ n4_ n5_ n6_ n7_; (try clear hb); (try clear hb2); (try clear hk); (try clear hi); (try clear ho0)))
        repeat (go_quiet (first | (go_at_call 20; (refine (disk_Crash.calls kj3 (fun k_ => k_ < w.heap.size) _ _ l0_0 (fun k_ => k_ < w.heap.size) _ _ l0_1 _ _ ([] : List Bool) t506 t509 _ ?side1 ?side2 ?side3 ?side4 A17.out).mono ?_); (case side1 => exact Kd.V_mk HC0_0.out (Kd.F_below (Kd.C_F (Kd.heap_slice 5 (Kd.heap_int .u8)) HR0_0.out) (by repeat (first | (with_reducible first | exact HB.out | apply pA | apply pN | apply pD | refine pS ?_ GE502.out) | exact HB.out)))); (case side2 => exact Kd.V_mk HC0_1.out (Kd.F_below (Kd.C_F k47_heap HR0_1.out) (by repeat (first | (with_reducible first | exact HB.out | apply pA | apply pN | apply pD | refine pS ?_ GE502.out) | exact HB.out)))); (case side3 => exact Kd.C_nil _ _); (case side4 => exact Nat.le_refl _); rintro e w22 ⟨v507, v510, rfl, ho0, ho1, hb⟩; have n0_ := Aside0.mk (Kd.N_lower (Kd.N_mono (ok' := fun k_ => some k_ ≠ (v510 : Value).ownBlock ∧ k_ ≠ gb502) ho0 (fun k_ hk_ => ⟨hk_.2, Or.elim hk_.1 (fun hs_ => Or.elim hs_ (fun hs_ => fun e_ => Nat.not_le.2 hs_ (by rw [e_]; exact GW502.out)) (fun hs_ => fun e_ => Nat.not_le.2 hs_ (by rw [e_]; exact GW502.out))) (fun hn_ => (Kd.freshB (g := gb502) (o := .cells #[.slice A0_0 l0_0.length c0_0, .slice A0_1 l0_1.length c0_1] 25 (0, 0)) (by (with_reducible repeat (first | refine qN ?_ _ | refine qD ?_ | refine qA ?_ _)); exact BK502.out) k_ hn_))⟩)) (below_size (by repeat (first | (with_reducible first | exact HB.out | apply pA | apply pN | apply pD | refine pS ?_ GE502.out) | exact HB.out)))); have n1_ := Aside0.mk (Kd.N_lower (Kd.N_mono (ok' := fun k_ => some k_ ≠ (v507 : Value).ownBlock ∧ k_ ≠ gb502) ho1 (fun k_ hk_ => ⟨hk_.2, Or.elim hk_.1 (fun hs_ => Or.elim hs_ (fun hs_ => fun e_ => Nat.not_le.2 hs_ (by rw [e_]; exact GW502.out)) (fun hs_ => fun e_ => Nat.not_le.2 hs_ (by rw [e_]; exact GW502.out))) (fun hn_ => (Kd.freshB (g := gb502) (o := .cells #[.slice A0_0 l0_0.length c0_0, .slice A0_1 l0_1.length c0_1] 25 (0, 0)) (by (with_reducible repeat (first | refine qN ?_ _ | refine qD ?_ | refine qA ?_ _)); exact BK502.out) k_ hn_))⟩)) (below_size (by repeat (first | (with_reducible first | exact HB.out | apply pA | apply pN | apply pD | refine pS ?_ GE502.out) | exact HB.out)))); have n2_ := Aside0.mk (blk_below (g := gb502) (o := .cells #[.slice A0_0 l0_0.length c0_0, .slice A0_1 l0_1.length c0_1] 25 (0, 0)) (by (with_reducible repeat (first | refine qN ?_ _ | refine qD ?_ | refine qA ?_ _)); exact BK502.out) hb); have n3_ := Aside0.mk (below_step (by repeat (first | (with_reducible first | exact HB.out | apply pA | apply pN | apply pD | refine pS ?_ GE502.out) | exact HB.out)) hb); clear BK502; clear HB; have HO508 := n0_; have HO511 := n1_; have BK502 := n2_; have HB := n3_; clear n0_ n1_ n2_ n3_; (try clear hb); (try clear hb2); (try clear hk); (try clear hi); (try clear ho0); (try clear ho1)) | ((with_reducible refine gate_dst (N := 6) rfl ?_); (try (refine gate_guard (by rfl) ?_; dsimp only)); refine box_event ?hg (N := 6) ?hd (cs := #[.slice none 0 0, .slice none 0 0]) (t := 25) ?hr ?_; (case hd => rfl); (case hg => rfl); (case hr => first | (go_simp; done) | (go_simp; rfl)); intro gb512 hg w23 hbox hb; have n0_ := Aside0.mk (Kd.N_below (Kd.N_elderB (by (with_reducible repeat (first | apply Kd.N_alloc | apply Kd.N_drewN | apply Kd.N_drew)); exact HO508.out) gb512 (Nat.le_of_eq hg.symm)) hb); have n1_ := Aside0.mk (Kd.N_below (Kd.N_elderB (by (with_reducible repeat (first | apply Kd.N_alloc | apply Kd.N_drewN | apply Kd.N_drew)); exact HO511.out) gb512 (Nat.le_of_eq hg.symm)) hb); have n2_ := Aside0.mk (blk_below (g := gb502) (o := .cells #[.slice A0_0 l0_0.length c0_0, .slice A0_1 l0_1.length c0_1] 25 (0, 0)) (by (with_reducible repeat (first | refine qN ?_ _ | refine qD ?_ | refine qA ?_ _)); exact BK502.out) hb); have n3_ := Aside0.mk (below_step (by repeat (first | (with_reducible first | exact HB.out | apply pA | apply pN | apply pD | refine pS ?_ GE502.out) | exact HB.out)) hb); have n4_ := Aside0.mk (hbox); have n5_ := Aside0.mk ((by rw [hg]; exact (below_size (by repeat (first | (with_reducible first | exact HB.out | apply pA | apply pN | apply pD | refine pS ?_ GE502.out) | exact HB.out))) : w.heap.size ≤ gb512)); have n6_ := Aside0.mk ((by rw [hg]; exact (below_size (by repeat (first | (with_reducible first | exact HB.out | apply pA | apply pN | apply pD | refine pS ?_ GE502.out) | exact HB.out))) : w.heap.size ≤ gb512)); have n7_ := Aside0.mk ((by rw [hg]; exact Nat.ne_of_lt (blk_lt (g := gb502) (o := .cells #[.slice A0_0 l0_0.length c0_0, .slice A0_1 l0_1.length c0_1] 25 (0, 0)) (by (with_reducible repeat (first | refine qN ?_ _ | refine qD ?_ | refine qA ?_ _)); exact BK502.out)) : gb502 ≠ gb512)); have n8_ := Aside0.mk ((by rw [hg]; exact Nat.ne_of_gt (blk_lt (g := gb502) (o := .cells #[.slice A0_0 l0_0.length c0_0, .slice A0_1 l0_1.length c0_1] 25 (0, 0)) (by (with_reducible repeat (first | refine qN ?_ _ | refine qD ?_ | refine qA ?_ _)); exact BK502.out)) : gb512 ≠ gb502)); clear HO508; clear HO511; clear BK502; clear HB; have HO508 := n0_; have HO511 := n1_; have BK502 := n2_; have HB := n3_; have BK512 := n4_; have GW512 := n5_; have GE512 := n6_; have NB502_512 := n7_; have NB512_502 := n8_; clear n0_ n1_ n2_ n3_ n4_ n5_ n6_ n7_ n8_; clear hb hbox hg; obtain ⟨Ao24, co24, eo24⟩ := Kd.N_slice HO508.out; subst eo24; have hnb25 := NB512_502.out; have hnc25 := NB502_512.out; have hcz26_0 : w23.cell? ⟨gb512, 0, none⟩ = some (.slice none 0 0) := (blk_cell BK512.out 0).trans rfl; have hcz26_1 : w23.cell? ⟨gb512, 1, none⟩ = some (.slice none 0 0) := (blk_cell BK512.out 1).trans rfl; have hfz26_0 := blk_frozen BK512.out 0; have hfz26_1 := blk_frozen BK512.out 1; obtain ⟨Ao27, co27, eo27⟩ := Kd.N_slice HO511.out; subst eo27) | (go_at_call 23; (with_reducible refine (disk_New.calls kj3  t513 t516 _ A18.out).mono ?_); rintro e w28 ⟨v514, v517, rfl, ho0, ho1, hb⟩; have n0_ := Aside0.mk (Kd.N_mono (Kd.N_told (Kd.N_told (Kd.N_old (by (with_reducible repeat (first | apply Kd.N_alloc | apply Kd.N_drewN | apply Kd.N_drew)); exact (Kd.N_mono (Kd.N_far (p := ⟨gb512, 1, none⟩) (Kd.N_far (p := ⟨gb512, 0, none⟩) (Kd.N_mono HO508.out (fun k_ hk => (⟨hk, hk.2⟩ : _ ∧ k_ ≠ gb512))) (fun _ hk => hk.2) (.slice Ao24 t506.length co24)) (fun _ hk => hk.2) (.slice Ao27 t509.length co27)) (fun _ h_ => h_.1))) hb) (Kd.N_base ho0)) (Kd.N_base ho1)) (fun _ h_ => h_.1)); have n1_ := Aside0.mk (Kd.N_mono (Kd.N_told (Kd.N_told (Kd.N_old (by (with_reducible repeat (first | apply Kd.N_alloc | apply Kd.N_drewN | apply Kd.N_drew)); exact (Kd.N_mono (Kd.N_far (p := ⟨gb512, 1, none⟩) (Kd.N_far (p := ⟨gb512, 0, none⟩) (Kd.N_mono HO511.out (fun k_ hk => (⟨hk, hk.2⟩ : _ ∧ k_ ≠ gb512))) (fun _ hk => hk.2) (.slice Ao24 t506.length co24)) (fun _ hk => hk.2) (.slice Ao27 t509.length co27)) (fun _ h_ => h_.1))) hb) (Kd.N_base ho0)) (Kd.N_base ho1)) (fun _ h_ => h_.1)); have n2_ := Aside0.mk (Kd.N_lower (Kd.N_mono (ok' := fun k_ => some k_ ≠ (v517 : Value).ownBlock ∧ some k_ ≠ (.slice Ao24 t506.length co24 : Value).ownBlock ∧ some k_ ≠ (.slice Ao27 t509.length co27 : Value).ownBlock ∧ k_ ≠ gb502 ∧ k_ ≠ gb512) ho0 (fun k_ hk_ => ⟨hk_.2, (Kd.fresh' (Kd.N_lt (by (with_reducible repeat (first | apply Kd.N_alloc | apply Kd.N_drewN | apply Kd.N_drew)); exact (Kd.N_mono (Kd.N_far (p := ⟨gb512, 1, none⟩) (Kd.N_far (p := ⟨gb512, 0, none⟩) (Kd.N_mono HO508.out (fun k_ hk => (⟨hk, hk.2⟩ : _ ∧ k_ ≠ gb512))) (fun _ hk => hk.2) (.slice Ao24 t506.length co24)) (fun _ hk => hk.2) (.slice Ao27 t509.length co27)) (fun _ h_ => h_.1)))) k_ hk_.1), (Kd.fresh' (Kd.N_lt (by (with_reducible repeat (first | apply Kd.N_alloc | apply Kd.N_drewN | apply Kd.N_drew)); exact (Kd.N_mono (Kd.N_far (p := ⟨gb512, 1, none⟩) (Kd.N_far (p := ⟨gb512, 0, none⟩) (Kd.N_mono HO511.out (fun k_ hk => (⟨hk, hk.2⟩ : _ ∧ k_ ≠ gb512))) (fun _ hk => hk.2) (.slice Ao24 t506.length co24)) (fun _ hk => hk.2) (.slice Ao27 t509.length co27)) (fun _ h_ => h_.1)))) k_ hk_.1), (Kd.freshB (g := gb502) (o := .cells #[.slice A0_0 l0_0.length c0_0, .slice A0_1 l0_1.length c0_1] 25 (0, 0)) (by (with_reducible repeat (first | refine qN ?_ _ | refine qD ?_ | refine qA ?_ _)); refine blk_far ?_ NB502_512.out _; (with_reducible repeat (first | refine qN ?_ _ | refine qD ?_ | refine qA ?_ _)); refine blk_far ?_ NB502_512.out _; (with_reducible repeat (first | refine qN ?_ _ | refine qD ?_ | refine qA ?_ _)); exact BK502.out) k_ hk_.1), (Kd.freshB (g := gb512) (o := .cells #[.slice Ao24 t506.length co24, .slice Ao27 t509.length co27] 25 (0, 0)) (by (with_reducible repeat (first | refine qN ?_ _ | refine qD ?_ | refine qA ?_ _)); refine blk_put (cs := #[.slice Ao24 t506.length co24, .slice none 0 0]) ?_ 1 _ rfl; (with_reducible repeat (first | refine qN ?_ _ | refine qD ?_ | refine qA ?_ _)); refine blk_put (cs := #[.slice none 0 0, .slice none 0 0]) ?_ 0 _ rfl; (with_reducible repeat (first | refine qN ?_ _ | refine qD ?_ | refine qA ?_ _)); exact BK512.out) k_ hk_.1)⟩)) (below_size (by repeat (first | (with_reducible first | exact HB.out | apply pA | apply pN | apply pD | refine pS ?_ GE502.out | refine pS ?_ GE512.out) | exact HB.out)))); have n3_ := Aside0.mk (Kd.N_lower (Kd.N_mono (ok' := fun k_ => some k_ ≠ (v514 : Value).ownBlock ∧ some k_ ≠ (.slice Ao24 t506.length co24 : Value).ownBlock ∧ some k_ ≠ (.slice Ao27 t509.length co27 : Value).ownBlock ∧ k_ ≠ gb502 ∧ k_ ≠ gb512) ho1 (fun k_ hk_ => ⟨hk_.2, (Kd.fresh' (Kd.N_lt (by (with_reducible repeat (first | apply Kd.N_alloc | apply Kd.N_drewN | apply Kd.N_drew)); exact (Kd.N_mono (Kd.N_far (p := ⟨gb512, 1, none⟩) (Kd.N_far (p := ⟨gb512, 0, none⟩) (Kd.N_mono HO508.out (fun k_ hk => (⟨hk, hk.2⟩ : _ ∧ k_ ≠ gb512))) (fun _ hk => hk.2) (.slice Ao24 t506.length co24)) (fun _ hk => hk.2) (.slice Ao27 t509.length co27)) (fun _ h_ => h_.1)))) k_ hk_.1), (Kd.fresh' (Kd.N_lt (by (with_reducible repeat (first | apply Kd.N_alloc | apply Kd.N_drewN | apply Kd.N_drew)); exact (Kd.N_mono (Kd.N_far (p := ⟨gb512, 1, none⟩) (Kd.N_far (p := ⟨gb512, 0, none⟩) (Kd.N_mono HO511.out (fun k_ hk => (⟨hk, hk.2⟩ : _ ∧ k_ ≠ gb512))) (fun _ hk => hk.2) (.slice Ao24 t506.length co24)) (fun _ hk => hk.2) (.slice Ao27 t509.length co27)) (fun _ h_ => h_.1)))) k_ hk_.1), (Kd.freshB (g := gb502) (o := .cells #[.slice A0_0 l0_0.length c0_0, .slice A0_1 l0_1.length c0_1] 25 (0, 0)) (by (with_reducible repeat (first | refine qN ?_ _ | refine qD ?_ | refine qA ?_ _)); refine blk_far ?_ NB502_512.out _; (with_reducible repeat (first | refine qN ?_ _ | refine qD ?_ | refine qA ?_ _)); refine blk_far ?_ NB502_512.out _; (with_reducible repeat (first | refine qN ?_ _ | refine qD ?_ | refine qA ?_ _)); exact BK502.out) k_ hk_.1), (Kd.freshB (g := gb512) (o := .cells #[.slice Ao24 t506.length co24, .slice Ao27 t509.length co27] 25 (0, 0)) (by (with_reducible repeat (first | refine qN ?_ _ | refine qD ?_ | refine qA ?_ _)); refine blk_put (cs := #[.slice Ao24 t506.length co24, .slice none 0 0]) ?_ 1 _ rfl; (with_reducible repeat (first | refine qN ?_ _ | refine qD ?_ | refine qA ?_ _)); refine blk_put (cs := #[.slice none 0 0, .slice none 0 0]) ?_ 0 _ rfl; (with_reducible repeat (first | refine qN ?_ _ | refine qD ?_ | refine qA ?_ _)); exact BK512.out) k_ hk_.1)⟩)) (below_size (by repeat (first | (with_reducible first | exact HB.out | apply pA | apply pN | apply pD | refine pS ?_ GE502.out | refine pS ?_ GE512.out) | exact HB.out)))); have n4_ := Aside0.mk (blk_below (g := gb502) (o := .cells #[.slice A0_0 l0_0.length c0_0, .slice A0_1 l0_1.length c0_1] 25 (0, 0)) (by (with_reducible repeat (first | refine qN ?_ _ | refine qD ?_ | refine qA ?_ _)); refine blk_far ?_ NB502_512.out _; (with_reducible repeat (first | refine qN ?_ _ | refine qD ?_ | refine qA ?_ _)); refine blk_far ?_ NB502_512.out _; (with_reducible repeat (first | refine qN ?_ _ | refine qD ?_ | refine qA ?_ _)); exact BK502.out) hb); have n5_ := Aside0.mk (blk_below (g := gb512) (o := .cells #[.slice Ao24 t506.length co24, .slice Ao27 t509.length co27] 25 (0, 0)) (by (with_reducible repeat (first | refine qN ?_ _ | refine qD ?_ | refine qA ?_ _)); refine blk_put (cs := #[.slice Ao24 t506.length co24, .slice none 0 0]) ?_ 1 _ rfl; (with_reducible repeat (first | refine qN ?_ _ | refine qD ?_ | refine qA ?_ _)); refine blk_put (cs := #[.slice none 0 0, .slice none 0 0]) ?_ 0 _ rfl; (with_reducible repeat (first | refine qN ?_ _ | refine qD ?_ | refine qA ?_ _)); exact BK512.out) hb); have n6_ := Aside0.mk (below_step (by repeat (first | (with_reducible first | exact HB.out | apply pA | apply pN | apply pD | refine pS ?_ GE502.out | refine pS ?_ GE512.out) | exact HB.out)) hb); clear HO508; clear HO511; clear BK502; clear BK512; clear HB; have HO508 := n0_; have HO511 := n1_; have HO515 := n2_; have HO518 := n3_; have BK502 := n4_; have BK512 := n5_; have HB := n6_; clear n0_ n1_ n2_ n3_ n4_ n5_ n6_; (try clear hb); (try clear hb2); (try clear hk); (try clear hi); (try clear ho0); (try clear ho1); obtain ⟨Ao29, co29, eo29⟩ := Kd.N_slice HO515.out; subst eo29; obtain ⟨Ao30, co30, eo30⟩ := Kd.N_slice HO518.out; subst eo30) | (go_at_call 14; (with_reducible refine (disk_Read.calls kj3 (fun k_ => (some k_ ≠ (.slice Ao30 t516.length co30 : Value).ownBlock ∧ (some k_ ≠ (.slice Ao24 t506.length co24 : Value).ownBlock ∧ (some k_ ≠ (.slice Ao27 t509.length co27 : Value).ownBlock ∧ (k_ ≠ gb502 ∧ k_ ≠ gb512))))) _ _ t513 (fun k_ => (some k_ ≠ (.slice Ao29 t513.length co29 : Value).ownBlock ∧ (some k_ ≠ (.slice Ao24 t506.length co24 : Value).ownBlock ∧ (some k_ ≠ (.slice Ao27 t509.length co27 : Value).ownBlock ∧ (k_ ≠ gb502 ∧ k_ ≠ gb512))))) _ _ t516 a1 t519 t522 _ ?side1 ?side2 A19.out).mono ?_); (case side1 => exact Kd.N_V (HO515.out)); (case side2 => exact Kd.N_V (HO518.out)); rintro e w31 ⟨v520, rfl, ho0, hb⟩; have n0_ := Aside0.mk (Kd.N_elder' (by (with_reducible repeat (first | apply Kd.N_alloc | apply Kd.N_drewN | apply Kd.N_drew)); exact HO508.out) (Kd.R_base ho0) hb); have n1_ := Aside0.mk (Kd.N_elder' (by (with_reducible repeat (first | apply Kd.N_alloc | apply Kd.N_drewN | apply Kd.N_drew)); exact HO511.out) (Kd.R_base ho0) hb); have n2_ := Aside0.mk (Kd.N_elder' (by (with_reducible repeat (first | apply Kd.N_alloc | apply Kd.N_drewN | apply Kd.N_drew)); exact HO515.out) (Kd.R_base ho0) hb); have n3_ := Aside0.mk (Kd.N_elder' (by (with_reducible repeat (first | apply Kd.N_alloc | apply Kd.N_drewN | apply Kd.N_drew)); exact HO518.out) (Kd.R_base ho0) hb); have n4_ := Aside0.mk (Kd.R_lower (Kd.R_mono (ok' := fun k_ => True) ho0 (fun _ hk_ => trivial)) (below_size (by repeat (first | (with_reducible first | exact HB.out | apply pA | apply pN | apply pD | refine pS ?_ GE502.out | refine pS ?_ GE512.out) | exact HB.out)))); have n5_ := Aside0.mk (blk_below (g := gb502) (o := .cells #[.slice A0_0 l0_0.length c0_0, .slice A0_1 l0_1.length c0_1] 25 (0, 0)) (by (with_reducible repeat (first | refine qN ?_ _ | refine qD ?_ | refine qA ?_ _)); exact BK502.out) hb); have n6_ := Aside0.mk (blk_below (g := gb512) (o := .cells #[.slice Ao24 t506.length co24, .slice Ao27 t509.length co27] 25 (0, 0)) (by (with_reducible repeat (first | refine qN ?_ _ | refine qD ?_ | refine qA ?_ _)); exact BK512.out) hb); have n7_ := Aside0.mk (below_step (by repeat (first | (with_reducible first | exact HB.out | apply pA | apply pN | apply pD | refine pS ?_ GE502.out | refine pS ?_ GE512.out) | exact HB.out)) hb); clear HO508; clear HO511; clear HO515; clear HO518; clear BK502; clear BK512; clear HB; have HO508 := n0_; have HO511 := n1_; have HO515 := n2_; have HO518 := n3_; have HO521 := n4_; have BK502 := n5_; have BK512 := n6_; have HB := n7_; clear n0_ n1_ n2_ n3_ n4_ n5_ n6_ n7_; (try clear hb); (try clear hb2); (try clear hk); (try clear hi); (try clear ho0))); go_upto_region 6 with (first | (go_at_call 20; (refine (disk_Crash.calls kj3 (fun k_ => k_ < w.heap.size) _ _ l0_0 (fun k_ => k_ < w.heap.size) _ _ l0_1 _ _ ([] : List Bool) t506 t509 _ ?side1 ?side2 ?side3 ?side4 A17.out).mono ?_); (case side1 => exact Kd.V_mk HC0_0.out (Kd.F_below (Kd.C_F (Kd.heap_slice 5 (Kd.heap_int .u8)) HR0_0.out) (by repeat (first | (with_reducible first | exact HB.out | apply pA | apply pN | apply pD | refine pS ?_ GE502.out) | exact HB.out)))); (case side2 => exact Kd.V_mk HC0_1.out (Kd.F_below (Kd.C_F k47_heap HR0_1.out) (by repeat (first | (with_reducible first | exact HB.out | apply pA | apply pN | apply pD | refine pS ?_ GE502.out) | exact HB.out)))); (case side3 => exact Kd.C_nil _ _); (case side4 => exact Nat.le_refl _); rintro e w22 ⟨v507, v510, rfl, ho0, ho1, hb⟩; have n0_ := Aside0.mk (Kd.N_lower (Kd.N_mono (ok' := fun k_ => some k_ ≠ (v510 : Value).ownBlock ∧ k_ ≠ gb502) ho0 (fun k_ hk_ => ⟨hk_.2, Or.elim hk_.1 (fun hs_ => Or.elim hs_ (fun hs_ => fun e_ => Nat.not_le.2 hs_ (by rw [e_]; exact GW502.out)) (fun hs_ => fun e_ => Nat.not_le.2 hs_ (by rw [e_]; exact GW502.out))) (fun hn_ => (Kd.freshB (g := gb502) (o := .cells #[.slice A0_0 l0_0.length c0_0, .slice A0_1 l0_1.length c0_1] 25 (0, 0)) (by (with_reducible repeat (first | refine qN ?_ _ | refine qD ?_ | refine qA ?_ _)); exact BK502.out) k_ hn_))⟩)) (below_size (by repeat (first | (with_reducible first | exact HB.out | apply pA | apply pN | apply pD | refine pS ?_ GE502.out) | exact HB.out)))); have n1_ := Aside0.mk (Kd.N_lower (Kd.N_mono (ok' := fun k_ => some k_ ≠ (v507 : Value).ownBlock ∧ k_ ≠ gb502) ho1 (fun k_ hk_ => ⟨hk_.2, Or.elim hk_.1 (fun hs_ => Or.elim hs_ (fun hs_ => fun e_ => Nat.not_le.2 hs_ (by rw [e_]; exact GW502.out)) (fun hs_ => fun e_ => Nat.not_le.2 hs_ (by rw [e_]; exact GW502.out))) (fun hn_ => (Kd.freshB (g := gb502) (o := .cells #[.slice A0_0 l0_0.length c0_0, .slice A0_1 l0_1.length c0_1] 25 (0, 0)) (by (with_reducible repeat (first | refine qN ?_ _ | refine qD ?_ | refine qA ?_ _)); exact BK502.out) k_ hn_))⟩)) (below_size (by repeat (first | (with_reducible first | exact HB.out | apply pA | apply pN | apply pD | refine pS ?_ GE502.out) | exact HB.out)))); have n2_ := Aside0.mk (blk_below (g := gb502) (o := .cells #[.slice A0_0 l0_0.length c0_0, .slice A0_1 l0_1.length c0_1] 25 (0, 0)) (by (with_reducible repeat (first | refine qN ?_ _ | refine qD ?_ | refine qA ?_ _)); exact BK502.out) hb); have n3_ := Aside0.mk (below_step (by repeat (first | (with_reducible first | exact HB.out | apply pA | apply pN | apply pD | refine pS ?_ GE502.out) | exact HB.out)) hb); clear BK502; clear HB; have HO508 := n0_; have HO511 := n1_; have BK502 := n2_; have HB := n3_; clear n0_ n1_ n2_ n3_; (try clear hb); (try clear hb2); (try clear hk); (try clear hi); (try clear ho0); (try clear ho1)) | ((with_reducible refine gate_dst (N := 6) rfl ?_); (try (refine gate_guard (by rfl) ?_; dsimp only)); refine box_event ?hg (N := 6) ?hd (cs := #[.slice none 0 0, .slice none 0 0]) (t := 25) ?hr ?_; (case hd => rfl); (case hg => rfl); (case hr => first | (go_simp; done) | (go_simp; rfl)); intro gb512 hg w23 hbox hb; have n0_ := Aside0.mk (Kd.N_below (Kd.N_elderB (by (with_reducible repeat (first | apply Kd.N_alloc | apply Kd.N_drewN | apply Kd.N_drew)); exact HO508.out) gb512 (Nat.le_of_eq hg.symm)) hb); have n1_ := Aside0.mk (Kd.N_below (Kd.N_elderB (by (with_reducible repeat (first | apply Kd.N_alloc | apply Kd.N_drewN | apply Kd.N_drew)); exact HO511.out) gb512 (Nat.le_of_eq hg.symm)) hb); have n2_ := Aside0.mk (blk_below (g := gb502) (o := .cells #[.slice A0_0 l0_0.length c0_0, .slice A0_1 l0_1.length c0_1] 25 (0, 0)) (by (with_reducible repeat (first | refine qN ?_ _ | refine qD ?_ | refine qA ?_ _)); exact BK502.out) hb); have n3_ := Aside0.mk (below_step (by repeat (first | (with_reducible first | exact HB.out | apply pA | apply pN | apply pD | refine pS ?_ GE502.out) | exact HB.out)) hb); have n4_ := Aside0.mk (hbox); have n5_ := Aside0.mk ((by rw [hg]; exact (below_size (by repeat (first | (with_reducible first | exact HB.out | apply pA | apply pN | apply pD | refine pS ?_ GE502.out) | exact HB.out))) : w.heap.size ≤ gb512)); have n6_ := Aside0.mk ((by rw [hg]; exact (below_size (by repeat (first | (with_reducible first | exact HB.out | apply pA | apply pN | apply pD | refine pS ?_ GE502.out) | exact HB.out))) : w.heap.size ≤ gb512)); have n7_ := Aside0.mk ((by rw [hg]; exact Nat.ne_of_lt (blk_lt (g := gb502) (o := .cells #[.slice A0_0 l0_0.length c0_0, .slice A0_1 l0_1.length c0_1] 25 (0, 0)) (by (with_reducible repeat (first | refine qN ?_ _ | refine qD ?_ | refine qA ?_ _)); exact BK502.out)) : gb502 ≠ gb512)); have n8_ := Aside0.mk ((by rw [hg]; exact Nat.ne_of_gt (blk_lt (g := gb502) (o := .cells #[.slice A0_0 l0_0.length c0_0, .slice A0_1 l0_1.length c0_1] 25 (0, 0)) (by (with_reducible repeat (first | refine qN ?_ _ | refine qD ?_ | refine qA ?_ _)); exact BK502.out)) : gb512 ≠ gb502)); clear HO508; clear HO511; clear BK502; clear HB; have HO508 := n0_; have HO511 := n1_; have BK502 := n2_; have HB := n3_; have BK512 := n4_; have GW512 := n5_; have GE512 := n6_; have NB502_512 := n7_; have NB512_502 := n8_; clear n0_ n1_ n2_ n3_ n4_ n5_ n6_ n7_ n8_; clear hb hbox hg; obtain ⟨Ao24, co24, eo24⟩ := Kd.N_slice HO508.out; subst eo24; have hnb25 := NB512_502.out; have hnc25 := NB502_512.out; have hcz26_0 : w23.cell? ⟨gb512, 0, none⟩ = some (.slice none 0 0) := (blk_cell BK512.out 0).trans rfl; have hcz26_1 : w23.cell? ⟨gb512, 1, none⟩ = some (.slice none 0 0) := (blk_cell BK512.out 1).trans rfl; have hfz26_0 := blk_frozen BK512.out 0; have hfz26_1 := blk_frozen BK512.out 1; obtain ⟨Ao27, co27, eo27⟩ := Kd.N_slice HO511.out; subst eo27) | (go_at_call 23; (with_reducible refine (disk_New.calls kj3  t513 t516 _ A18.out).mono ?_); rintro e w28 ⟨v514, v517, rfl, ho0, ho1, hb⟩; have n0_ := Aside0.mk (Kd.N_mono (Kd.N_told (Kd.N_told (Kd.N_old (by (with_reducible repeat (first | apply Kd.N_alloc | apply Kd.N_drewN | apply Kd.N_drew)); exact (Kd.N_mono (Kd.N_far (p := ⟨gb512, 1, none⟩) (Kd.N_far (p := ⟨gb512, 0, none⟩) (Kd.N_mono HO508.out (fun k_ hk => (⟨hk, hk.2⟩ : _ ∧ k_ ≠ gb512))) (fun _ hk => hk.2) (.slice Ao24 t506.length co24)) (fun _ hk => hk.2) (.slice Ao27 t509.length co27)) (fun _ h_ => h_.1))) hb) (Kd.N_base ho0)) (Kd.N_base ho1)) (fun _ h_ => h_.1)); have n1_ := Aside0.mk (Kd.N_mono (Kd.N_told (Kd.N_told (Kd.N_old (by (with_reducible repeat (first | apply Kd.N_alloc | apply Kd.N_drewN | apply Kd.N_drew)); exact (Kd.N_mono (Kd.N_far (p := ⟨gb512, 1, none⟩) (Kd.N_far (p := ⟨gb512, 0, none⟩) (Kd.N_mono HO511.out (fun k_ hk => (⟨hk, hk.2⟩ : _ ∧ k_ ≠ gb512))) (fun _ hk => hk.2) (.slice Ao24 t506.length co24)) (fun _ hk => hk.2) (.slice Ao27 t509.length co27)) (fun _ h_ => h_.1))) hb) (Kd.N_base ho0)) (Kd.N_base ho1)) (fun _ h_ => h_.1)); have n2_ := Aside0.mk (Kd.N_lower (Kd.N_mono (ok' := fun k_ => some k_ ≠ (v517 : Value).ownBlock ∧ some k_ ≠ (.slice Ao24 t506.length co24 : Value).ownBlock ∧ some k_ ≠ (.slice Ao27 t509.length co27 : Value).ownBlock ∧ k_ ≠ gb502 ∧ k_ ≠ gb512) ho0 (fun k_ hk_ => ⟨hk_.2, (Kd.fresh' (Kd.N_lt (by (with_reducible repeat (first | apply Kd.N_alloc | apply Kd.N_drewN | apply Kd.N_drew)); exact (Kd.N_mono (Kd.N_far (p := ⟨gb512, 1, none⟩) (Kd.N_far (p := ⟨gb512, 0, none⟩) (Kd.N_mono HO508.out (fun k_ hk => (⟨hk, hk.2⟩ : _ ∧ k_ ≠ gb512))) (fun _ hk => hk.2) (.slice Ao24 t506.length co24)) (fun _ hk => hk.2) (.slice Ao27 t509.length co27)) (fun _ h_ => h_.1)))) k_ hk_.1), (Kd.fresh' (Kd.N_lt (by (with_reducible repeat (first | apply Kd.N_alloc | apply Kd.N_drewN | apply Kd.N_drew)); exact (Kd.N_mono (Kd.N_far (p := ⟨gb512, 1, none⟩) (Kd.N_far (p := ⟨gb512, 0, none⟩) (Kd.N_mono HO511.out (fun k_ hk => (⟨hk, hk.2⟩ : _ ∧ k_ ≠ gb512))) (fun _ hk => hk.2) (.slice Ao24 t506.length co24)) (fun _ hk => hk.2) (.slice Ao27 t509.length co27)) (fun _ h_ => h_.1)))) k_ hk_.1), (Kd.freshB (g := gb502) (o := .cells #[.slice A0_0 l0_0.length c0_0, .slice A0_1 l0_1.length c0_1] 25 (0, 0)) (by (with_reducible repeat (first | refine qN ?_ _ | refine qD ?_ | refine qA ?_ _)); refine blk_far ?_ NB502_512.out _; (with_reducible repeat (first | refine qN ?_ _ | refine qD ?_ | refine qA ?_ _)); refine blk_far ?_ NB502_512.out _; (with_reducible repeat (first | refine qN ?_ _ | refine qD ?_ | refine qA ?_ _)); exact BK502.out) k_ hk_.1), (Kd.freshB (g := gb512) (o := .cells #[.slice Ao24 t506.length co24, .slice Ao27 t509.length co27] 25 (0, 0)) (by (with_reducible repeat (first | refine qN ?_ _ | refine qD ?_ | refine qA ?_ _)); refine blk_put (cs := #[.slice Ao24 t506.length co24, .slice none 0 0]) ?_ 1 _ rfl; (with_reducible repeat (first | refine qN ?_ _ | refine qD ?_ | refine qA ?_ _)); refine blk_put (cs := #[.slice none 0 0, .slice none 0 0]) ?_ 0 _ rfl; (with_reducible repeat (first | refine qN ?_ _ | refine qD ?_ | refine qA ?_ _)); exact BK512.out) k_ hk_.1)⟩)) (below_size (by repeat (first | (with_reducible first | exact HB.out | apply pA | apply pN | apply pD | refine pS ?_ GE502.out | refine pS ?_ GE512.out) | exact HB.out)))); have n3_ := Aside0.mk (Kd.N_lower (Kd.N_mono (ok' := fun k_ => some k_ ≠ (v514 : Value).ownBlock ∧ some k_ ≠ (.slice Ao24 t506.length co24 : Value).ownBlock ∧ some k_ ≠ (.slice Ao27 t509.length co27 : Value).ownBlock ∧ k_ ≠ gb502 ∧ k_ ≠ gb512) ho1 (fun k_ hk_ => ⟨hk_.2, (Kd.fresh' (Kd.N_lt (by (with_reducible repeat (first | apply Kd.N_alloc | apply Kd.N_drewN | apply Kd.N_drew)); exact (Kd.N_mono (Kd.N_far (p := ⟨gb512, 1, none⟩) (Kd.N_far (p := ⟨gb512, 0, none⟩) (Kd.N_mono HO508.out (fun k_ hk => (⟨hk, hk.2⟩ : _ ∧ k_ ≠ gb512))) (fun _ hk => hk.2) (.slice Ao24 t506.length co24)) (fun _ hk => hk.2) (.slice Ao27 t509.length co27)) (fun _ h_ => h_.1)))) k_ hk_.1), (Kd.fresh' (Kd.N_lt (by (with_reducible repeat (first | apply Kd.N_alloc | apply Kd.N_drewN | apply Kd.N_drew)); exact (Kd.N_mono (Kd.N_far (p := ⟨gb512, 1, none⟩) (Kd.N_far (p := ⟨gb512, 0, none⟩) (Kd.N_mono HO511.out (fun k_ hk => (⟨hk, hk.2⟩ : _ ∧ k_ ≠ gb512))) (fun _ hk => hk.2) (.slice Ao24 t506.length co24)) (fun _ hk => hk.2) (.slice Ao27 t509.length co27)) (fun _ h_ => h_.1)))) k_ hk_.1), (Kd.freshB (g := gb502) (o := .cells #[.slice A0_0 l0_0.length c0_0, .slice A0_1 l0_1.length c0_1] 25 (0, 0)) (by (with_reducible repeat (first | refine qN ?_ _ | refine qD ?_ | refine qA ?_ _)); refine blk_far ?_ NB502_512.out _; (with_reducible repeat (first | refine qN ?_ _ | refine qD ?_ | refine qA ?_ _)); refine blk_far ?_ NB502_512.out _; (with_reducible repeat (first | refine qN ?_ _ | refine qD ?_ | refine qA ?_ _)); exact BK502.out) k_ hk_.1), (Kd.freshB (g := gb512) (o := .cells #[.slice Ao24 t506.length co24, .slice Ao27 t509.length co27] 25 (0, 0)) (by (with_reducible repeat (first | refine qN ?_ _ | refine qD ?_ | refine qA ?_ _)); refine blk_put (cs := #[.slice Ao24 t506.length co24, .slice none 0 0]) ?_ 1 _ rfl; (with_reducible repeat (first | refine qN ?_ _ | refine qD ?_ | refine qA ?_ _)); refine blk_put (cs := #[.slice none 0 0, .slice none 0 0]) ?_ 0 _ rfl; (with_reducible repeat (first | refine qN ?_ _ | refine qD ?_ | refine qA ?_ _)); exact BK512.out) k_ hk_.1)⟩)) (below_size (by repeat (first | (with_reducible first | exact HB.out | apply pA | apply pN | apply pD | refine pS ?_ GE502.out | refine pS ?_ GE512.out) | exact HB.out)))); have n4_ := Aside0.mk (blk_below (g := gb502) (o := .cells #[.slice A0_0 l0_0.length c0_0, .slice A0_1 l0_1.length c0_1] 25 (0, 0)) (by (with_reducible repeat (first | refine qN ?_ _ | refine qD ?_ | refine qA ?_ _)); refine blk_far ?_ NB502_512.out _; (with_reducible repeat (first | refine qN ?_ _ | refine qD ?_ | refine qA ?_ _)); refine blk_far ?_ NB502_512.out _; (with_reducible repeat (first | refine qN ?_ _ | refine qD ?_ | refine qA ?_ _)); exact BK502.out) hb); have n5_ := Aside0.mk (blk_below (g := gb512) (o := .cells #[.slice Ao24 t506.length co24, .slice Ao27 t509.length co27] 25 (0, 0)) (by (with_reducible repeat (first | refine qN ?_ _ | refine qD ?_ | refine qA ?_ _)); refine blk_put (cs := #[.slice Ao24 t506.length co24, .slice none 0 0]) ?_ 1 _ rfl; (with_reducible repeat (first | refine qN ?_ _ | refine qD ?_ | refine qA ?_ _)); refine blk_put (cs := #[.slice none 0 0, .slice none 0 0]) ?_ 0 _ rfl; (with_reducible repeat (first | refine qN ?_ _ | refine qD ?_ | refine qA ?_ _)); exact BK512.out) hb); have n6_ := Aside0.mk (below_step (by repeat (first | (with_reducible first | exact HB.out | apply pA | apply pN | apply pD | refine pS ?_ GE502.out | refine pS ?_ GE512.out) | exact HB.out)) hb); clear HO508; clear HO511; clear BK502; clear BK512; clear HB; have HO508 := n0_; have HO511 := n1_; have HO515 := n2_; have HO518 := n3_; have BK502 := n4_; have BK512 := n5_; have HB := n6_; clear n0_ n1_ n2_ n3_ n4_ n5_ n6_; (try clear hb); (try clear hb2); (try clear hk); (try clear hi); (try clear ho0); (try clear ho1); obtain ⟨Ao29, co29, eo29⟩ := Kd.N_slice HO515.out; subst eo29; obtain ⟨Ao30, co30, eo30⟩ := Kd.N_slice HO518.out; subst eo30) | (go_at_call 14; (with_reducible refine (disk_Read.calls kj3 (fun k_ => (some k_ ≠ (.slice Ao30 t516.length co30 : Value).ownBlock ∧ (some k_ ≠ (.slice Ao24 t506.length co24 : Value).ownBlock ∧ (some k_ ≠ (.slice Ao27 t509.length co27 : Value).ownBlock ∧ (k_ ≠ gb502 ∧ k_ ≠ gb512))))) _ _ t513 (fun k_ => (some k_ ≠ (.slice Ao29 t513.length co29 : Value).ownBlock ∧ (some k_ ≠ (.slice Ao24 t506.length co24 : Value).ownBlock ∧ (some k_ ≠ (.slice Ao27 t509.length co27 : Value).ownBlock ∧ (k_ ≠ gb502 ∧ k_ ≠ gb512))))) _ _ t516 a1 t519 t522 _ ?side1 ?side2 A19.out).mono ?_); (case side1 => exact Kd.N_V (HO515.out)); (case side2 => exact Kd.N_V (HO518.out)); rintro e w31 ⟨v520, rfl, ho0, hb⟩; have n0_ := Aside0.mk (Kd.N_elder' (by (with_reducible repeat (first | apply Kd.N_alloc | apply Kd.N_drewN | apply Kd.N_drew)); exact HO508.out) (Kd.R_base ho0) hb); have n1_ := Aside0.mk (Kd.N_elder' (by (with_reducible repeat (first | apply Kd.N_alloc | apply Kd.N_drewN | apply Kd.N_drew)); exact HO511.out) (Kd.R_base ho0) hb); have n2_ := Aside0.mk (Kd.N_elder' (by (with_reducible repeat (first | apply Kd.N_alloc | apply Kd.N_drewN | apply Kd.N_drew)); exact HO515.out) (Kd.R_base ho0) hb); have n3_ := Aside0.mk (Kd.N_elder' (by (with_reducible repeat (first | apply Kd.N_alloc | apply Kd.N_drewN | apply Kd.N_drew)); exact HO518.out) (Kd.R_base ho0) hb); have n4_ := Aside0.mk (Kd.R_lower (Kd.R_mono (ok' := fun k_ => True) ho0 (fun _ hk_ => trivial)) (below_size (by repeat (first | (with_reducible first | exact HB.out | apply pA | apply pN | apply pD | refine pS ?_ GE502.out | refine pS ?_ GE512.out) | exact HB.out)))); have n5_ := Aside0.mk (blk_below (g := gb502) (o := .cells #[.slice A0_0 l0_0.length c0_0, .slice A0_1 l0_1.length c0_1] 25 (0, 0)) (by (with_reducible repeat (first | refine qN ?_ _ | refine qD ?_ | refine qA ?_ _)); exact BK502.out) hb); have n6_ := Aside0.mk (blk_below (g := gb512) (o := .cells #[.slice Ao24 t506.length co24, .slice Ao27 t509.length co27] 25 (0, 0)) (by (with_reducible repeat (first | refine qN ?_ _ | refine qD ?_ | refine qA ?_ _)); exact BK512.out) hb); have n7_ := Aside0.mk (below_step (by repeat (first | (with_reducible first | exact HB.out | apply pA | apply pN | apply pD | refine pS ?_ GE502.out | refine pS ?_ GE512.out) | exact HB.out)) hb); clear HO508; clear HO511; clear HO515; clear HO518; clear BK502; clear BK512; clear HB; have HO508 := n0_; have HO511 := n1_; have HO515 := n2_; have HO518 := n3_; have HO521 := n4_; have BK502 := n5_; have BK512 := n6_; have HB := n7_; clear n0_ n1_ n2_ n3_ n4_ n5_ n6_ n7_; (try clear hb); (try clear hb2); (try clear hk); (try clear hi); (try clear ho0))))
        (try simp only [Act.put, List.setIfInBounds_toArray, List.set_cons_zero, List.set_cons_succ])
        go_cut [40] (fun v40 wc => ∃ (kq : Nat) (x40_19 : Bool), v40 = .bool x40_19 ∧ Aside0 (portreevelaw03_DiskNone.j1 kq a1 t503 t519 t522 x40_19 l0_0 l0_1 t506 t509 = some r) ∧ Aside0 (kq ≤ kj3) ∧ Aside0 (Kd.R (Kd.int .u8) 5 wc w.heap.size (fun _ => True) v520 t519) ∧ Aside0 (Kd.N (Kd.slice 5 (Kd.int .u8)) 26 wc w.heap.size (fun k_ => some k_ ≠ (v520 : Value).ownBlock ∧ some k_ ≠ ((.slice Ao27 t509.length co27) : Value).ownBlock ∧ k_ ≠ gb502 ∧ k_ ≠ gb512) (.slice Ao24 t506.length co24) t506) ∧ Aside0 (Kd.N k47 47 wc w.heap.size (fun k_ => some k_ ≠ (v520 : Value).ownBlock ∧ some k_ ≠ ((.slice Ao24 t506.length co24) : Value).ownBlock ∧ k_ ≠ gb502 ∧ k_ ≠ gb512) (.slice Ao27 t509.length co27) t509) ∧ Aside0 (wc.heap[gb502]? = some (.cells #[(.slice A0_0 l0_0.length c0_0), (.slice A0_1 l0_1.length c0_1)] 25 (0, 0))) ∧ Aside0 (wc.heap[gb512]? = some (.cells #[(.slice Ao24 t506.length co24), (.slice Ao27 t509.length co27)] 25 (0, 0))) ∧ Aside0 (Below w.heap.size w wc))
        case first =>
          have H := HC20.out
          clear HC20
          by_cases c32 : (t506.length : Int) = (l0_0.length : Int)
          · rw [if_pos c32] at H
            have c32b0 : ((t506.length : Int) == (l0_0.length : Int)) = true := beq_iff_eq.mpr c32
            have c32b1 : ((t506.length : Int) != (l0_0.length : Int)) = false := bne_eq_false_iff_eq.mpr c32
            have c32b2 : (t506.length == l0_0.length) = true := by first | simpa using c32 | (simp at c32 ⊢; omega)
            clear c32
            (first | rw [c32b0] | (simp only [i64_w, i32_w]; rw [c32b0]) | skip)
            have H' := Aside0.mk H
            clear H
            have hnb33 := NB512_502.out
            have hnc33 := NB502_512.out
            have hcz34_0 : w31.cell? ⟨gb512, 0, none⟩ = some (.slice Ao24 t506.length co24) := (blk_cell BK512.out 0).trans rfl
            have hcz34_1 : w31.cell? ⟨gb512, 1, none⟩ = some (.slice Ao27 t509.length co27) := (blk_cell BK512.out 1).trans rfl
            have hfz34_0 := blk_frozen BK512.out 0
            have hfz34_1 := blk_frozen BK512.out 1
            have hcz35_0 : w31.cell? ⟨gb502, 0, none⟩ = some (.slice A0_0 l0_0.length c0_0) := (blk_cell BK502.out 0).trans rfl
            have hcz35_1 : w31.cell? ⟨gb502, 1, none⟩ = some (.slice A0_1 l0_1.length c0_1) := (blk_cell BK502.out 1).trans rfl
            have hfz35_0 := blk_frozen BK502.out 0
            have hfz35_1 := blk_frozen BK502.out 1
            go_wp2
            repeat (go_quiet (fail); try go_wp2)
            go_meet
            case rel => exact ⟨_, (((t509.length : Int) != 0)), (by first | rfl | (simp; done) | (simp [*]; done)), H', ⟨by have := HJ3.out; first | omega | exact Nat.le_refl _⟩, ⟨by (with_reducible repeat (first | apply Kd.R_alloc | apply Kd.R_drewN | apply Kd.R_drew)); exact HO521.out⟩, ⟨by (with_reducible repeat (first | apply Kd.N_alloc | apply Kd.N_drewN | apply Kd.N_drew)); exact Kd.N_mono HO508.out (fun _ hk => ⟨hk.2, ⟨hk.1.1.1.1.1, ⟨hk.1.1.1.1.2, hk.1.1.1.2⟩⟩⟩)⟩, ⟨by (with_reducible repeat (first | apply Kd.N_alloc | apply Kd.N_drewN | apply Kd.N_drew)); exact Kd.N_mono HO511.out (fun _ hk => ⟨hk.2, ⟨hk.1.1.1.1.1, ⟨hk.1.1.1.1.2, hk.1.1.1.2⟩⟩⟩)⟩, ⟨by (with_reducible repeat (first | refine qN ?_ _ | refine qD ?_ | refine qA ?_ _)); exact BK502.out⟩, ⟨by (with_reducible repeat (first | refine qN ?_ _ | refine qD ?_ | refine qA ?_ _)); exact BK512.out⟩, ⟨by repeat (first | (with_reducible first | exact HB.out | apply pA | apply pN | apply pD | refine pS ?_ GE502.out | refine pS ?_ GE512.out) | exact HB.out)⟩⟩
          · rw [if_neg c32] at H
            have c32b0 : ((t506.length : Int) == (l0_0.length : Int)) = false := beq_eq_false_iff_ne.mpr c32
            have c32b1 : ((t506.length : Int) != (l0_0.length : Int)) = true := bne_iff_ne.mpr c32
            have c32b2 : (t506.length == l0_0.length) = false := by first | simpa using c32 | (simp at c32 ⊢; omega)
            (first | rw [c32b0] | (simp only [i64_w, i32_w]; rw [c32b0]) | skip)
            have H' := Aside0.mk H
            clear H
            have hnb36 := NB512_502.out
            have hnc36 := NB502_512.out
            have hcz37_0 : w31.cell? ⟨gb512, 0, none⟩ = some (.slice Ao24 t506.length co24) := (blk_cell BK512.out 0).trans rfl
            have hcz37_1 : w31.cell? ⟨gb512, 1, none⟩ = some (.slice Ao27 t509.length co27) := (blk_cell BK512.out 1).trans rfl
            have hfz37_0 := blk_frozen BK512.out 0
            have hfz37_1 := blk_frozen BK512.out 1
            have hcz38_0 : w31.cell? ⟨gb502, 0, none⟩ = some (.slice A0_0 l0_0.length c0_0) := (blk_cell BK502.out 0).trans rfl
            have hcz38_1 : w31.cell? ⟨gb502, 1, none⟩ = some (.slice A0_1 l0_1.length c0_1) := (blk_cell BK502.out 1).trans rfl
            have hfz38_0 := blk_frozen BK502.out 0
            have hfz38_1 := blk_frozen BK502.out 1
            go_wp2
            repeat (go_quiet (fail); try go_wp2)
            go_meet
            case rel => exact ⟨_, (true), (by first | rfl | (simp; done) | (simp [*]; done)), H', ⟨by have := HJ3.out; first | omega | exact Nat.le_refl _⟩, ⟨by (with_reducible repeat (first | apply Kd.R_alloc | apply Kd.R_drewN | apply Kd.R_drew)); exact HO521.out⟩, ⟨by (with_reducible repeat (first | apply Kd.N_alloc | apply Kd.N_drewN | apply Kd.N_drew)); exact Kd.N_mono HO508.out (fun _ hk => ⟨hk.2, ⟨hk.1.1.1.1.1, ⟨hk.1.1.1.1.2, hk.1.1.1.2⟩⟩⟩)⟩, ⟨by (with_reducible repeat (first | apply Kd.N_alloc | apply Kd.N_drewN | apply Kd.N_drew)); exact Kd.N_mono HO511.out (fun _ hk => ⟨hk.2, ⟨hk.1.1.1.1.1, ⟨hk.1.1.1.1.2, hk.1.1.1.2⟩⟩⟩)⟩, ⟨by (with_reducible repeat (first | refine qN ?_ _ | refine qD ?_ | refine qA ?_ _)); exact BK502.out⟩, ⟨by (with_reducible repeat (first | refine qN ?_ _ | refine qD ?_ | refine qA ?_ _)); exact BK512.out⟩, ⟨by repeat (first | (with_reducible first | exact HB.out | apply pA | apply pN | apply pD | refine pS ?_ GE502.out | refine pS ?_ GE512.out) | exact HB.out)⟩⟩
        case rest =>
          clear HC20
          try clear c1
          try clear c2
          try clear p2
          try clear c3
          try clear c8
          try clear c16
          try clear c25
          try clear c32
          try clear c32b0
          try clear c32b1
          try clear c32b2
          try clear c33
          try clear c36
          try clear hcz10_0
          try clear hcz10_1
          try clear hcz12_0
          try clear hcz12_1
          try clear hcz14_0
          try clear hcz14_1
          try clear hcz21_0
          try clear hcz21_1
          try clear hcz26_0
          try clear hcz26_1
          try clear hcz34_0
          try clear hcz34_1
          try clear hcz35_0
          try clear hcz35_1
          try clear hcz37_0
          try clear hcz37_1
          try clear hcz38_0
          try clear hcz38_1
          try clear hfz10_0
          try clear hfz10_1
          try clear hfz12_0
          try clear hfz12_1
          try clear hfz14_0
          try clear hfz14_1
          try clear hfz21_0
          try clear hfz21_1
          try clear hfz26_0
          try clear hfz26_1
          try clear hfz34_0
          try clear hfz34_1
          try clear hfz35_0
          try clear hfz35_1
          try clear hfz37_0
          try clear hfz37_1
          try clear hfz38_0
          try clear hfz38_1
          try clear p2
          obtain ⟨kq, x40_19, rfl, HA, HJ19, HO_7, HO_513000, HO_513001, BK502, BK512, HB⟩ := hcut
          cases kq with
          | zero => exact absurd HA.out (by simp [portreevelaw03_DiskNone.j1])
          | succ kj19 =>
            have H := HA.out
            clear HA
            simp only [portreevelaw03_DiskNone.j1] at H
            by_cases c39 : x40_19 = true
            · subst c39
              have H1 : (some false) = some r := by rw [if_pos rfl] at H; exact H
              clear H
              have H := H1
              clear H1
              exact absurd ((Option.some.inj H).trans hlaw_.out) (by decide)
            · replace c39 := Bool.eq_false_iff.mpr c39
              subst c39
              have H1 : (portreevelaw03_DiskNone.l0 kj19 a1 t503 t519 t522 0 l0_0 l0_1 t506 t509) = some r := by rw [if_neg (show ¬ (false = true) by decide)] at H; exact H
              clear H
              have H := H1
              clear H1
              have H' := Aside0.mk H
              clear H
              go_wp2
              repeat (go_quiet (fail); try go_wp2)
              go_loopg [9] kj19 (fun kq v9 w' => ∃ (x9_3 : Int), v9 = .int .i64 x9_3 ∧ Aside0 (portreevelaw03_DiskNone.l0 kq a1 t503 t519 t522 x9_3 l0_0 l0_1 t506 t509 = some r) ∧ Aside0 (kq ≤ kj19) ∧ Aside0 (Kd.R (Kd.int .u8) 5 w' w.heap.size (fun _ => True) v520 t519) ∧ Aside0 (Kd.N (Kd.slice 5 (Kd.int .u8)) 26 w' w.heap.size (fun k_ => some k_ ≠ (v520 : Value).ownBlock ∧ some k_ ≠ ((.slice Ao27 t509.length co27) : Value).ownBlock ∧ k_ ≠ gb502 ∧ k_ ≠ gb512) (.slice Ao24 t506.length co24) t506) ∧ Aside0 (Kd.N k47 47 w' w.heap.size (fun k_ => some k_ ≠ (v520 : Value).ownBlock ∧ some k_ ≠ ((.slice Ao24 t506.length co24) : Value).ownBlock ∧ k_ ≠ gb502 ∧ k_ ≠ gb512) (.slice Ao27 t509.length co27) t509) ∧ Aside0 (w'.heap[gb502]? = some (.cells #[(.slice A0_0 l0_0.length c0_0), (.slice A0_1 l0_1.length c0_1)] 25 (0, 0))) ∧ Aside0 (w'.heap[gb512]? = some (.cells #[(.slice Ao24 t506.length co24), (.slice Ao27 t509.length co27)] 25 (0, 0))) ∧ Aside0 (Below w.heap.size w w'))
              case atStart => exact ⟨(0), (by first | rfl | (simp; done) | (simp [*]; done)), H', ⟨Nat.le_refl _⟩, ⟨by (with_reducible repeat (first | apply Kd.R_alloc | apply Kd.R_drewN | apply Kd.R_drew)); exact HO_7.out⟩, ⟨by (with_reducible repeat (first | apply Kd.N_alloc | apply Kd.N_drewN | apply Kd.N_drew)); exact HO_513000.out⟩, ⟨by (with_reducible repeat (first | apply Kd.N_alloc | apply Kd.N_drewN | apply Kd.N_drew)); exact HO_513001.out⟩, ⟨by (with_reducible repeat (first | refine qN ?_ _ | refine qD ?_ | refine qA ?_ _)); exact BK502.out⟩, ⟨by (with_reducible repeat (first | refine qN ?_ _ | refine qD ?_ | refine qA ?_ _)); exact BK512.out⟩, ⟨by repeat (first | (with_reducible first | exact HB.out | apply pA | apply pN | apply pD | refine pS ?_ GE502.out | refine pS ?_ GE512.out) | exact HB.out)⟩⟩
              case round =>
                clear H'
                try clear c1
                try clear c2
                try clear p2
                try clear c3
                try clear c8
                try clear c16
                try clear c25
                try clear c32
                try clear c32b0
                try clear c32b1
                try clear c32b2
                try clear c33
                try clear c36
                try clear c39
                try clear hcz10_0
                try clear hcz10_1
                try clear hcz12_0
                try clear hcz12_1
                try clear hcz14_0
                try clear hcz14_1
                try clear hcz21_0
                try clear hcz21_1
                try clear hcz26_0
                try clear hcz26_1
                try clear hcz34_0
                try clear hcz34_1
                try clear hcz35_0
                try clear hcz35_1
                try clear hcz37_0
                try clear hcz37_1
                try clear hcz38_0
                try clear hcz38_1
                try clear hfz10_0
                try clear hfz10_1
                try clear hfz12_0
                try clear hfz12_1
                try clear hfz14_0
                try clear hfz14_1
                try clear hfz21_0
                try clear hfz21_1
                try clear hfz26_0
                try clear hfz26_1
                try clear hfz34_0
                try clear hfz34_1
                try clear hfz35_0
                try clear hfz35_1
                try clear hfz37_0
                try clear hfz37_1
                try clear hfz38_0
                try clear hfz38_1
                try clear p2
                obtain ⟨x9_3, rfl, HA, HK3, HO_7, HO_513000, HO_513001, BK502, BK512, HB⟩ := hrel
                cases gk with
                | zero => exact absurd HA.out (by simp [portreevelaw03_DiskNone.l0])
                | succ k3 =>
                  have H := HA.out
                  clear HA
                  simp only [portreevelaw03_DiskNone.l0] at H
                  by_cases c40 : x9_3 < (t506.length : Int)
                  · rw [if_pos c40] at H
                    have c40b0 : decide (x9_3 < (t506.length : Int)) = true := decide_eq_true c40
                    clear c40
                    by_cases c41 : 0 ≤ x9_3
                    · rw [if_pos c41] at H
                      have c41b0 : decide (0 ≤ x9_3) = true := decide_eq_true c41
                      clear c41
                      by_cases c42 : x9_3 < (l0_0.length : Int)
                      · rw [if_pos c42] at H
                        have c42b0 : decide (x9_3 < (l0_0.length : Int)) = true := decide_eq_true c42
                        clear c42
                        replace H := Option.bind_eq_some_iff.mp H
                        obtain ⟨t525, A430, H⟩ := H
                        replace H : (if t525 = true then (portreevelaw03_DiskNone.l0 k3 a1 t503 t519 t522 (wrap64 (x9_3 + 1)) l0_0 l0_1 t506 t509) else (some false)) = some r := H
                        have A43 := Aside0.mk A430
                        clear A430
                        by_cases c44 : t525 = true
                        · subst c44
                          have H1 : (portreevelaw03_DiskNone.l0 k3 a1 t503 t519 t522 (wrap64 (x9_3 + 1)) l0_0 l0_1 t506 t509) = some r := by rw [if_pos rfl] at H; exact H
                          clear H
                          have H := H1
                          clear H1
                          have H' := Aside0.mk H
                          clear H
                          have hnb45 := NB512_502.out
                          have hnc45 := NB502_512.out
                          have hcz46_0 : wr.cell? ⟨gb512, 0, none⟩ = some (.slice Ao24 t506.length co24) := (blk_cell BK512.out 0).trans rfl
                          have hcz46_1 : wr.cell? ⟨gb512, 1, none⟩ = some (.slice Ao27 t509.length co27) := (blk_cell BK512.out 1).trans rfl
                          have hfz46_0 := blk_frozen BK512.out 0
                          have hfz46_1 := blk_frozen BK512.out 1
                          have p523 : 0 ≤ (x9_3 : Int) := of_decide_eq_true (by first | (with_reducible assumption) | assumption)
                          have q523 : x9_3 < (t506.length : Int) := of_decide_eq_true (by first | (with_reducible assumption) | assumption)
                          obtain ⟨ad523, A523_0, c523_0, e523, hx523_0, hl523_0, hi523_0⟩ := at_L2 (Kd.N_reads' HO_513000.out).2.2 x9_3 p523 q523
                          cases e523
                          obtain ⟨ce523, hce523, hMe523, hcc523⟩ := Kd.N_get HO_513000.out [] x9_3 p523 (by first | exact q523 | exact of_decide_eq_true (by first | (with_reducible assumption) | assumption) | (have e_ := (Kd.N_reads' HO_513000.out).1; omega))
                          obtain ⟨ua523_0, uc523_0, rfl, ul523_0, ge523_0⟩ := Kd.FK_slice_open hMe523
                          have hv523_0 := hcc523 0 _ rfl
                          rw [Nat.add_zero, show ((Kd.slice 5 (Kd.int .u8))).sz = 1 from rfl, Nat.mul_one] at hv523_0
                          replace hv523_0 := Option.some.inj (hv523_0.symm.trans hx523_0)
                          injection hv523_0 with hva_ hvn_ hvc_
                          rw [hva_] at ge523_0
                          rw [hvc_] at ul523_0
                          have HL523_0 := Aside0.mk (show Kd.V (Kd.int .u8) 5 _ w.heap.size _ _ (rd_L2 t506 x9_3) from Kd.V_mk ul523_0 ge523_0)
                          clear hva_ hvn_ hvc_ ge523_0 ul523_0
                          clear hcc523 hce523
                          have HR523_0 := Aside0.mk hi523_0
                          have HC523_0 := Aside0.mk hl523_0
                          clear hi523_0 hl523_0
                          replace p523 := eq_true p523
                          replace q523 := eq_true q523
                          have hcz47_0 : wr.cell? ⟨gb502, 0, none⟩ = some (.slice A0_0 l0_0.length c0_0) := (blk_cell BK502.out 0).trans rfl
                          have hcz47_1 : wr.cell? ⟨gb502, 1, none⟩ = some (.slice A0_1 l0_1.length c0_1) := (blk_cell BK502.out 1).trans rfl
                          have hfz47_0 := blk_frozen BK502.out 0
                          have hfz47_1 := blk_frozen BK502.out 1
                          have p524 : 0 ≤ (x9_3 : Int) := of_decide_eq_true (by first | (with_reducible assumption) | assumption)
                          have q524 : x9_3 < (l0_0.length : Int) := of_decide_eq_true (by first | (with_reducible assumption) | assumption)
                          obtain ⟨ad524, A524_0, c524_0, e524, hx524_0, hl524_0, hi524_0⟩ := at_L2 HR0_0.out x9_3 p524 q524
                          cases e524
                          replace hx524_0 := (HB.out.cell (World.block_lt_of_cell? w _ hx524_0)).trans hx524_0
                          have HR524_0 := Aside0.mk hi524_0
                          have HC524_0 := Aside0.mk hl524_0
                          clear hi524_0 hl524_0
                          replace p524 := eq_true p524
                          replace q524 := eq_true q524
                          go_wp2_with (first | (go_at_call 17; (with_reducible refine (portreeveref01_Row.calls k3 _ _ (rd_L2 t506 x9_3) _ _ (rd_L2 l0_0 x9_3) true _ ?side1 ?side2 ?side3 ?side4 A43.out).mono ?_); (case side1 => repeat (first | exact (by repeat (first | (with_reducible exact HR523_0.out) | (with_reducible refine Kd.C_alloc ?_ _) | (with_reducible refine Kd.C_drewN ?_ _) | (with_reducible refine Kd.C_drew ?_) | exact HR523_0.out)) | (with_reducible refine Kd.C_alloc ?_ _) | (with_reducible refine Kd.C_drewN ?_ _) | (with_reducible refine Kd.C_drew ?_))); (case side2 => exact HC523_0.out); (case side3 => repeat (first | exact (Kd.C_below HR524_0.out HB.out) | (with_reducible refine Kd.C_alloc ?_ _) | (with_reducible refine Kd.C_drewN ?_ _) | (with_reducible refine Kd.C_drew ?_))); (case side4 => exact HC524_0.out); rintro e w' ⟨rfl, ⟨nd, rfl⟩⟩; (try first | exact ⟨rfl, _, World.drewN_drewN _ _ _⟩ | exact ⟨rfl, _, Eq.trans (World.drewN_drewN _ _ _) (congrArg (World.drewN _) (Nat.add_assoc _ _ _))⟩)))
                          repeat (go_quiet (first | (go_at_call 17; (with_reducible refine (portreeveref01_Row.calls k3 _ _ (rd_L2 t506 x9_3) _ _ (rd_L2 l0_0 x9_3) true _ ?side1 ?side2 ?side3 ?side4 A43.out).mono ?_); (case side1 => repeat (first | exact (by repeat (first | (with_reducible exact HR523_0.out) | (with_reducible refine Kd.C_alloc ?_ _) | (with_reducible refine Kd.C_drewN ?_ _) | (with_reducible refine Kd.C_drew ?_) | exact HR523_0.out)) | (with_reducible refine Kd.C_alloc ?_ _) | (with_reducible refine Kd.C_drewN ?_ _) | (with_reducible refine Kd.C_drew ?_))); (case side2 => exact HC523_0.out); (case side3 => repeat (first | exact (Kd.C_below HR524_0.out HB.out) | (with_reducible refine Kd.C_alloc ?_ _) | (with_reducible refine Kd.C_drewN ?_ _) | (with_reducible refine Kd.C_drew ?_))); (case side4 => exact HC524_0.out); rintro e w' ⟨rfl, ⟨nd, rfl⟩⟩; (try first | exact ⟨rfl, _, World.drewN_drewN _ _ _⟩ | exact ⟨rfl, _, Eq.trans (World.drewN_drewN _ _ _) (congrArg (World.drewN _) (Nat.add_assoc _ _ _))⟩))); try go_wp2_with (first | (go_at_call 17; (with_reducible refine (portreeveref01_Row.calls k3 _ _ (rd_L2 t506 x9_3) _ _ (rd_L2 l0_0 x9_3) true _ ?side1 ?side2 ?side3 ?side4 A43.out).mono ?_); (case side1 => repeat (first | exact (by repeat (first | (with_reducible exact HR523_0.out) | (with_reducible refine Kd.C_alloc ?_ _) | (with_reducible refine Kd.C_drewN ?_ _) | (with_reducible refine Kd.C_drew ?_) | exact HR523_0.out)) | (with_reducible refine Kd.C_alloc ?_ _) | (with_reducible refine Kd.C_drewN ?_ _) | (with_reducible refine Kd.C_drew ?_))); (case side2 => exact HC523_0.out); (case side3 => repeat (first | exact (Kd.C_below HR524_0.out HB.out) | (with_reducible refine Kd.C_alloc ?_ _) | (with_reducible refine Kd.C_drewN ?_ _) | (with_reducible refine Kd.C_drew ?_))); (case side4 => exact HC524_0.out); rintro e w' ⟨rfl, ⟨nd, rfl⟩⟩; (try first | exact ⟨rfl, _, World.drewN_drewN _ _ _⟩ | exact ⟨rfl, _, Eq.trans (World.drewN_drewN _ _ _) (congrArg (World.drewN _) (Nat.add_assoc _ _ _))⟩))))
                          go_roundg k3
                          case measure => have := HJ3.out; have := HJ19.out; have := HK3.out; omega
                          case rel => exact ⟨(wrap64 (x9_3 + 1)), (by first | rfl | (simp; done) | (simp [*]; done)), H', ⟨by have := HJ3.out; have := HJ19.out; have := HK3.out; omega⟩, ⟨by (with_reducible repeat (first | apply Kd.R_alloc | apply Kd.R_drewN | apply Kd.R_drew)); exact HO_7.out⟩, ⟨by (with_reducible repeat (first | apply Kd.N_alloc | apply Kd.N_drewN | apply Kd.N_drew)); exact HO_513000.out⟩, ⟨by (with_reducible repeat (first | apply Kd.N_alloc | apply Kd.N_drewN | apply Kd.N_drew)); exact HO_513001.out⟩, ⟨by (with_reducible repeat (first | refine qN ?_ _ | refine qD ?_ | refine qA ?_ _)); exact BK502.out⟩, ⟨by (with_reducible repeat (first | refine qN ?_ _ | refine qD ?_ | refine qA ?_ _)); exact BK512.out⟩, ⟨by repeat (first | (with_reducible first | exact HB.out | apply pA | apply pN | apply pD | refine pS ?_ GE502.out | refine pS ?_ GE512.out) | exact HB.out)⟩⟩
                        · replace c44 := Bool.eq_false_iff.mpr c44
                          subst c44
                          have H1 : (some false) = some r := by rw [if_neg (show ¬ (false = true) by decide)] at H; exact H
                          clear H
                          have H := H1
                          clear H1
                          exact absurd ((Option.some.inj H).trans hlaw_.out) (by decide)
                      · rw [if_neg c42] at H
                        exact absurd H (by simp)
                    · rw [if_neg c41] at H
                      exact absurd H (by simp)
                  · rw [if_neg c40] at H
                    have c40b0 : decide (x9_3 < (t506.length : Int)) = false := decide_eq_false c40
                    clear c40
                    by_cases c48 : a1 < 0
                    · rw [if_pos c48] at H
                      have c48b0 : decide (a1 < 0) = true := decide_eq_true c48
                      clear c48
                      by_cases c49 : t503 = true
                      · subst c49
                        have H1 : (if t522 = 1 then (some ((t519.length : Int) == 0)) else (some false)) = some r := by rw [if_pos rfl] at H; exact H
                        clear H
                        have H := H1
                        clear H1
                        by_cases c50 : t522 = 1
                        · rw [if_pos c50] at H
                          have c50b0 : (t522 == 1) = true := beq_iff_eq.mpr c50
                          have c50b1 : (t522 != 1) = false := bne_eq_false_iff_eq.mpr c50
                          clear c50
                          clear hlaw_
                          obtain rfl := Option.some.inj H
                          have hnb51 := NB512_502.out
                          have hnc51 := NB502_512.out
                          have hcz52_0 : wr.cell? ⟨gb512, 0, none⟩ = some (.slice Ao24 t506.length co24) := (blk_cell BK512.out 0).trans rfl
                          have hcz52_1 : wr.cell? ⟨gb512, 1, none⟩ = some (.slice Ao27 t509.length co27) := (blk_cell BK512.out 1).trans rfl
                          have hfz52_0 := blk_frozen BK512.out 0
                          have hfz52_1 := blk_frozen BK512.out 1
                          obtain ⟨Ao53, co53, eo53⟩ := Kd.R_slice HO_7.out
                          subst eo53
                          go_wp2
                          repeat (go_quiet (fail); try go_wp2)
                          go_ret
                          exact ⟨by first | rfl | (simp [errW_none, errW_some] <;> rfl) | (simp [*, errW_none, errW_some] <;> rfl), by repeat (first | (with_reducible first | exact HB.out | apply pA | apply pN | apply pD | refine pS ?_ GE502.out | refine pS ?_ GE512.out) | exact HB.out)⟩
                        · rw [if_neg c50] at H
                          have c50b0 : (t522 == 1) = false := beq_eq_false_iff_ne.mpr c50
                          have c50b1 : (t522 != 1) = true := bne_iff_ne.mpr c50
                          exact absurd ((Option.some.inj H).trans hlaw_.out) (by decide)
                      · replace c49 := Bool.eq_false_iff.mpr c49
                        subst c49
                        have H1 : (some false) = some r := by rw [if_neg (show ¬ (false = true) by decide)] at H; exact H
                        clear H
                        have H := H1
                        clear H1
                        exact absurd ((Option.some.inj H).trans hlaw_.out) (by decide)
                    · rw [if_neg c48] at H
                      have c48b0 : decide (a1 < 0) = false := decide_eq_false c48
                      clear c48
                      by_cases c54 : a1 ≥ 64
                      · rw [if_pos c54] at H
                        have c54b0 : decide (64 ≤ a1) = true := decide_eq_true c54
                        clear c54
                        by_cases c55 : t503 = true
                        · subst c55
                          have H1 : (if t522 = 1 then (some ((t519.length : Int) == 0)) else (some false)) = some r := by rw [if_pos rfl] at H; exact H
                          clear H
                          have H := H1
                          clear H1
                          by_cases c56 : t522 = 1
                          · rw [if_pos c56] at H
                            have c56b0 : (t522 == 1) = true := beq_iff_eq.mpr c56
                            have c56b1 : (t522 != 1) = false := bne_eq_false_iff_eq.mpr c56
                            clear c56
                            clear hlaw_
                            obtain rfl := Option.some.inj H
                            have hnb57 := NB512_502.out
                            have hnc57 := NB502_512.out
                            have hcz58_0 : wr.cell? ⟨gb512, 0, none⟩ = some (.slice Ao24 t506.length co24) := (blk_cell BK512.out 0).trans rfl
                            have hcz58_1 : wr.cell? ⟨gb512, 1, none⟩ = some (.slice Ao27 t509.length co27) := (blk_cell BK512.out 1).trans rfl
                            have hfz58_0 := blk_frozen BK512.out 0
                            have hfz58_1 := blk_frozen BK512.out 1
                            obtain ⟨Ao59, co59, eo59⟩ := Kd.R_slice HO_7.out
                            subst eo59
                            go_wp2
                            repeat (go_quiet (fail); try go_wp2)
                            go_ret
                            exact ⟨by first | rfl | (simp [errW_none, errW_some] <;> rfl) | (simp [*, errW_none, errW_some] <;> rfl), by repeat (first | (with_reducible first | exact HB.out | apply pA | apply pN | apply pD | refine pS ?_ GE502.out | refine pS ?_ GE512.out) | exact HB.out)⟩
                          · rw [if_neg c56] at H
                            have c56b0 : (t522 == 1) = false := beq_eq_false_iff_ne.mpr c56
                            have c56b1 : (t522 != 1) = true := bne_iff_ne.mpr c56
                            exact absurd ((Option.some.inj H).trans hlaw_.out) (by decide)
                        · replace c55 := Bool.eq_false_iff.mpr c55
                          subst c55
                          have H1 : (some false) = some r := by rw [if_neg (show ¬ (false = true) by decide)] at H; exact H
                          clear H
                          have H := H1
                          clear H1
                          exact absurd ((Option.some.inj H).trans hlaw_.out) (by decide)
                      · rw [if_neg c54] at H
                        have c54b0 : decide (64 ≤ a1) = false := decide_eq_false c54
                        clear c54
                        by_cases c60 : t503 = true
                        · subst c60
                          have H1 : (if t522 = 0 then (if 128 ≤ 281474976710656 then ((portreeveref01_Row.f k3 t519 (List.replicate 128 0)).bind fun t529 => (some t529)) else (none)) else (some false)) = some r := by rw [if_pos rfl] at H; exact H
                          clear H
                          have H := H1
                          clear H1
                          by_cases c61 : t522 = 0
                          · rw [if_pos c61] at H
                            have c61b0 : (t522 == 0) = true := beq_iff_eq.mpr c61
                            have c61b1 : (t522 != 0) = false := bne_eq_false_iff_eq.mpr c61
                            clear c61
                            by_cases c62 : 128 ≤ 281474976710656
                            · rw [if_pos c62] at H
                              have c62b0 := eq_true c62
                              have c62b1 : decide (128 ≤ 281474976710656) = true := decide_eq_true c62
                              clear c62
                              obtain ⟨y526, hy526⟩ : ∃ y_ : List Int, y_ = (List.replicate 128 0) := ⟨_, rfl⟩
                              replace H : ((portreeveref01_Row.f k3 t519 y526).bind fun t529 => (some t529)) = some r := by first | (rw [hy526]; with_reducible exact H) | (have H2_ := (Option.bind_some _ _).symm.trans H; rw [hy526]; with_reducible exact H2_) | (have H2_ := (Option.bind_some _ _).symm.trans H; with_reducible exact H2_) | with_reducible exact H | (rw [hy526]; exact H) | exact H
                              have Ny526 := Aside0.mk hy526
                              clear hy526
                              replace H := Option.bind_eq_some_iff.mp H
                              obtain ⟨t529, A630, H⟩ := H
                              replace H : (some t529) = some r := H
                              have A63 := Aside0.mk A630
                              clear A630
                              clear hlaw_
                              obtain rfl := Option.some.inj H
                              have hnb64 := NB512_502.out
                              have hnc64 := NB502_512.out
                              have hcz65_0 : wr.cell? ⟨gb512, 0, none⟩ = some (.slice Ao24 t506.length co24) := (blk_cell BK512.out 0).trans rfl
                              have hcz65_1 : wr.cell? ⟨gb512, 1, none⟩ = some (.slice Ao27 t509.length co27) := (blk_cell BK512.out 1).trans rfl
                              have hfz65_0 := blk_frozen BK512.out 0
                              have hfz65_1 := blk_frozen BK512.out 1
                              go_wp2_with (first | ((with_reducible refine gate_dst (N := 83) rfl ?_); (try (refine gate_guard (by rfl) ?_; dsimp only)); refine Kd.R_make (Kd.int .u8) _ 5 rfl (N := 83) rfl 26 _ _ rfl 128 rfl rfl Try.underlying26 (.int .u8 0) 1 info5 rfl (by decide) (by omega) 0 (ok := fun _ => True) (okp := fun _ => True) rfl (fun _ hk => hk) trivial (by omega) (by omega) (Below.refl _ _) (Nat.le_refl _) ?_; intro v527 w66 ho67 hb hg_ hnew_; clear hg_ hnew_; (first | rw [← Ny526.out] at ho67 | (simp only [Int.reduceToNat] at ho67; rw [← Ny526.out] at ho67)); have n0_ := Aside0.mk (Kd.R_elder' (by (with_reducible repeat (first | apply Kd.R_alloc | apply Kd.R_drewN | apply Kd.R_drew)); exact HO_7.out) (Kd.R_base ho67) hb); have n1_ := Aside0.mk (Kd.N_elder' (by (with_reducible repeat (first | apply Kd.N_alloc | apply Kd.N_drewN | apply Kd.N_drew)); exact HO_513000.out) (Kd.R_base ho67) hb); have n2_ := Aside0.mk (Kd.N_elder' (by (with_reducible repeat (first | apply Kd.N_alloc | apply Kd.N_drewN | apply Kd.N_drew)); exact HO_513001.out) (Kd.R_base ho67) hb); have n3_ := Aside0.mk (Kd.R_lower (Kd.R_new' ho67 (Kd.R_lt (by (with_reducible repeat (first | apply Kd.R_alloc | apply Kd.R_drewN | apply Kd.R_drew)); exact HO_7.out))) (below_size (by repeat (first | (with_reducible first | exact HB.out | apply pA | apply pN | apply pD | refine pS ?_ GE502.out | refine pS ?_ GE512.out) | exact HB.out)))); have n4_ := Aside0.mk (blk_below (g := gb502) (o := .cells #[.slice A0_0 l0_0.length c0_0, .slice A0_1 l0_1.length c0_1] 25 (0, 0)) (by (with_reducible repeat (first | refine qN ?_ _ | refine qD ?_ | refine qA ?_ _)); exact BK502.out) hb); have n5_ := Aside0.mk (blk_below (g := gb512) (o := .cells #[.slice Ao24 t506.length co24, .slice Ao27 t509.length co27] 25 (0, 0)) (by (with_reducible repeat (first | refine qN ?_ _ | refine qD ?_ | refine qA ?_ _)); exact BK512.out) hb); have n6_ := Aside0.mk (below_step (by repeat (first | (with_reducible first | exact HB.out | apply pA | apply pN | apply pD | refine pS ?_ GE502.out | refine pS ?_ GE512.out) | exact HB.out)) hb); clear HO_7; clear HO_513000; clear HO_513001; clear BK502; clear BK512; clear HB; have HO_7 := n0_; have HO_513000 := n1_; have HO_513001 := n2_; have HO528 := n3_; have BK502 := n4_; have BK512 := n5_; have HB := n6_; clear n0_ n1_ n2_ n3_ n4_ n5_ n6_; clear hb ho67; obtain ⟨Ao68, co68, eo68⟩ := Kd.R_slice HO_7.out; subst eo68; obtain ⟨Ao69, co69, eo69⟩ := Kd.R_slice HO528.out; subst eo69) | (go_at_call 17; (with_reducible refine (portreeveref01_Row.calls k3 _ _ t519 _ _ y526 t529 _ ?side1 ?side2 ?side3 ?side4 A63.out).mono ?_); (case side1 => repeat (first | exact (Kd.R_reads' HO_7.out).2.2 | (with_reducible refine Kd.C_alloc ?_ _) | (with_reducible refine Kd.C_drewN ?_ _) | (with_reducible refine Kd.C_drew ?_))); (case side2 => exact (Kd.R_reads' HO_7.out).2.1); (case side3 => repeat (first | exact (Kd.R_reads' HO528.out).2.2 | (with_reducible refine Kd.C_alloc ?_ _) | (with_reducible refine Kd.C_drewN ?_ _) | (with_reducible refine Kd.C_drew ?_))); (case side4 => exact (Kd.R_reads' HO528.out).2.1); rintro e w' ⟨rfl, ⟨nd, rfl⟩⟩; (try first | exact ⟨rfl, _, World.drewN_drewN _ _ _⟩ | exact ⟨rfl, _, Eq.trans (World.drewN_drewN _ _ _) (congrArg (World.drewN _) (Nat.add_assoc _ _ _))⟩)))
                              repeat (go_quiet (first | ((with_reducible refine gate_dst (N := 83) rfl ?_); (try (refine gate_guard (by rfl) ?_; dsimp only)); refine Kd.R_make (Kd.int .u8) _ 5 rfl (N := 83) rfl 26 _ _ rfl 128 rfl rfl Try.underlying26 (.int .u8 0) 1 info5 rfl (by decide) (by omega) 0 (ok := fun _ => True) (okp := fun _ => True) rfl (fun _ hk => hk) trivial (by omega) (by omega) (Below.refl _ _) (Nat.le_refl _) ?_; intro v527 w66 ho67 hb hg_ hnew_; clear hg_ hnew_; (first | rw [← Ny526.out] at ho67 | (simp only [Int.reduceToNat] at ho67; rw [← Ny526.out] at ho67)); have n0_ := Aside0.mk (Kd.R_elder' (by (with_reducible repeat (first | apply Kd.R_alloc | apply Kd.R_drewN | apply Kd.R_drew)); exact HO_7.out) (Kd.R_base ho67) hb); have n1_ := Aside0.mk (Kd.N_elder' (by (with_reducible repeat (first | apply Kd.N_alloc | apply Kd.N_drewN | apply Kd.N_drew)); exact HO_513000.out) (Kd.R_base ho67) hb); have n2_ := Aside0.mk (Kd.N_elder' (by (with_reducible repeat (first | apply Kd.N_alloc | apply Kd.N_drewN | apply Kd.N_drew)); exact HO_513001.out) (Kd.R_base ho67) hb); have n3_ := Aside0.mk (Kd.R_lower (Kd.R_new' ho67 (Kd.R_lt (by (with_reducible repeat (first | apply Kd.R_alloc | apply Kd.R_drewN | apply Kd.R_drew)); exact HO_7.out))) (below_size (by repeat (first | (with_reducible first | exact HB.out | apply pA | apply pN | apply pD | refine pS ?_ GE502.out | refine pS ?_ GE512.out) | exact HB.out)))); have n4_ := Aside0.mk (blk_below (g := gb502) (o := .cells #[.slice A0_0 l0_0.length c0_0, .slice A0_1 l0_1.length c0_1] 25 (0, 0)) (by (with_reducible repeat (first | refine qN ?_ _ | refine qD ?_ | refine qA ?_ _)); exact BK502.out) hb); have n5_ := Aside0.mk (blk_below (g := gb512) (o := .cells #[.slice Ao24 t506.length co24, .slice Ao27 t509.length co27] 25 (0, 0)) (by (with_reducible repeat (first | refine qN ?_ _ | refine qD ?_ | refine qA ?_ _)); exact BK512.out) hb); have n6_ := Aside0.mk (below_step (by repeat (first | (with_reducible first | exact HB.out | apply pA | apply pN | apply pD | refine pS ?_ GE502.out | refine pS ?_ GE512.out) | exact HB.out)) hb); clear HO_7; clear HO_513000; clear HO_513001; clear BK502; clear BK512; clear HB; have HO_7 := n0_; have HO_513000 := n1_; have HO_513001 := n2_; have HO528 := n3_; have BK502 := n4_; have BK512 := n5_; have HB := n6_; clear n0_ n1_ n2_ n3_ n4_ n5_ n6_; clear hb ho67; obtain ⟨Ao68, co68, eo68⟩ := Kd.R_slice HO_7.out; subst eo68; obtain ⟨Ao69, co69, eo69⟩ := Kd.R_slice HO528.out; subst eo69) | (go_at_call 17; (with_reducible refine (portreeveref01_Row.calls k3 _ _ t519 _ _ y526 t529 _ ?side1 ?side2 ?side3 ?side4 A63.out).mono ?_); (case side1 => repeat (first | exact (Kd.R_reads' HO_7.out).2.2 | (with_reducible refine Kd.C_alloc ?_ _) | (with_reducible refine Kd.C_drewN ?_ _) | (with_reducible refine Kd.C_drew ?_))); (case side2 => exact (Kd.R_reads' HO_7.out).2.1); (case side3 => repeat (first | exact (Kd.R_reads' HO528.out).2.2 | (with_reducible refine Kd.C_alloc ?_ _) | (with_reducible refine Kd.C_drewN ?_ _) | (with_reducible refine Kd.C_drew ?_))); (case side4 => exact (Kd.R_reads' HO528.out).2.1); rintro e w' ⟨rfl, ⟨nd, rfl⟩⟩; (try first | exact ⟨rfl, _, World.drewN_drewN _ _ _⟩ | exact ⟨rfl, _, Eq.trans (World.drewN_drewN _ _ _) (congrArg (World.drewN _) (Nat.add_assoc _ _ _))⟩))); try go_wp2_with (first | ((with_reducible refine gate_dst (N := 83) rfl ?_); (try (refine gate_guard (by rfl) ?_; dsimp only)); refine Kd.R_make (Kd.int .u8) _ 5 rfl (N := 83) rfl 26 _ _ rfl 128 rfl rfl Try.underlying26 (.int .u8 0) 1 info5 rfl (by decide) (by omega) 0 (ok := fun _ => True) (okp := fun _ => True) rfl (fun _ hk => hk) trivial (by omega) (by omega) (Below.refl _ _) (Nat.le_refl _) ?_; intro v527 w66 ho67 hb hg_ hnew_; clear hg_ hnew_; (first | rw [← Ny526.out] at ho67 | (simp only [Int.reduceToNat] at ho67; rw [← Ny526.out] at ho67)); have n0_ := Aside0.mk (Kd.R_elder' (by (with_reducible repeat (first | apply Kd.R_alloc | apply Kd.R_drewN | apply Kd.R_drew)); exact HO_7.out) (Kd.R_base ho67) hb); have n1_ := Aside0.mk (Kd.N_elder' (by (with_reducible repeat (first | apply Kd.N_alloc | apply Kd.N_drewN | apply Kd.N_drew)); exact HO_513000.out) (Kd.R_base ho67) hb); have n2_ := Aside0.mk (Kd.N_elder' (by (with_reducible repeat (first | apply Kd.N_alloc | apply Kd.N_drewN | apply Kd.N_drew)); exact HO_513001.out) (Kd.R_base ho67) hb); have n3_ := Aside0.mk (Kd.R_lower (Kd.R_new' ho67 (Kd.R_lt (by (with_reducible repeat (first | apply Kd.R_alloc | apply Kd.R_drewN | apply Kd.R_drew)); exact HO_7.out))) (below_size (by repeat (first | (with_reducible first | exact HB.out | apply pA | apply pN | apply pD | refine pS ?_ GE502.out | refine pS ?_ GE512.out) | exact HB.out)))); have n4_ := Aside0.mk (blk_below (g := gb502) (o := .cells #[.slice A0_0 l0_0.length c0_0, .slice A0_1 l0_1.length c0_1] 25 (0, 0)) (by (with_reducible repeat (first | refine qN ?_ _ | refine qD ?_ | refine qA ?_ _)); exact BK502.out) hb); have n5_ := Aside0.mk (blk_below (g := gb512) (o := .cells #[.slice Ao24 t506.length co24, .slice Ao27 t509.length co27] 25 (0, 0)) (by (with_reducible repeat (first | refine qN ?_ _ | refine qD ?_ | refine qA ?_ _)); exact BK512.out) hb); have n6_ := Aside0.mk (below_step (by repeat (first | (with_reducible first | exact HB.out | apply pA | apply pN | apply pD | refine pS ?_ GE502.out | refine pS ?_ GE512.out) | exact HB.out)) hb); clear HO_7; clear HO_513000; clear HO_513001; clear BK502; clear BK512; clear HB; have HO_7 := n0_; have HO_513000 := n1_; have HO_513001 := n2_; have HO528 := n3_; have BK502 := n4_; have BK512 := n5_; have HB := n6_; clear n0_ n1_ n2_ n3_ n4_ n5_ n6_; clear hb ho67; obtain ⟨Ao68, co68, eo68⟩ := Kd.R_slice HO_7.out; subst eo68; obtain ⟨Ao69, co69, eo69⟩ := Kd.R_slice HO528.out; subst eo69) | (go_at_call 17; (with_reducible refine (portreeveref01_Row.calls k3 _ _ t519 _ _ y526 t529 _ ?side1 ?side2 ?side3 ?side4 A63.out).mono ?_); (case side1 => repeat (first | exact (Kd.R_reads' HO_7.out).2.2 | (with_reducible refine Kd.C_alloc ?_ _) | (with_reducible refine Kd.C_drewN ?_ _) | (with_reducible refine Kd.C_drew ?_))); (case side2 => exact (Kd.R_reads' HO_7.out).2.1); (case side3 => repeat (first | exact (Kd.R_reads' HO528.out).2.2 | (with_reducible refine Kd.C_alloc ?_ _) | (with_reducible refine Kd.C_drewN ?_ _) | (with_reducible refine Kd.C_drew ?_))); (case side4 => exact (Kd.R_reads' HO528.out).2.1); rintro e w' ⟨rfl, ⟨nd, rfl⟩⟩; (try first | exact ⟨rfl, _, World.drewN_drewN _ _ _⟩ | exact ⟨rfl, _, Eq.trans (World.drewN_drewN _ _ _) (congrArg (World.drewN _) (Nat.add_assoc _ _ _))⟩))))
                              go_ret
                              exact ⟨by first | rfl | (simp [errW_none, errW_some] <;> rfl) | (simp [*, errW_none, errW_some] <;> rfl), by repeat (first | (with_reducible first | exact HB.out | apply pA | apply pN | apply pD | refine pS ?_ GE502.out | refine pS ?_ GE512.out) | exact HB.out)⟩
                            · rw [if_neg c62] at H
                              exact absurd H (by simp)
                          · rw [if_neg c61] at H
                            have c61b0 : (t522 == 0) = false := beq_eq_false_iff_ne.mpr c61
                            have c61b1 : (t522 != 0) = true := bne_iff_ne.mpr c61
                            exact absurd ((Option.some.inj H).trans hlaw_.out) (by decide)
                        · replace c60 := Bool.eq_false_iff.mpr c60
                          subst c60
                          have H1 : (some false) = some r := by rw [if_neg (show ¬ (false = true) by decide)] at H; exact H
                          clear H
                          have H := H1
                          clear H1
                          exact absurd ((Option.some.inj H).trans hlaw_.out) (by decide)

end Go.Proofs.Ytnhfhepakimncaa.Q

-- written by this session's own program (wip/tools/myprint.py), over the kit's print
import Derived.Test.YtoenogjedmnnlaaDoorQx0
import Derived.Test.YtoenogjedmnnlaaDoorQx1
import Derived.Test.YtoenogjedmnnlaaDoorQx4
import Derived.Test.YtoenogjedmnnlaaDoorQx6
namespace Go.Proofs.YtoenogjedmnnlaaDoor.Q
open Go.RowKit Go.Proofs.YtoenogjedmnnlaaDoorW.PrintWords Go.Proofs.YtoenogjedmnnlaaDoorW.PrintLast Go.Proofs.YtoenogjedmnnlaaDoorW.PrintMore
open Go.Proofs.YtoenogjedmnnlaaDoorV Go.Proofs.YtoenogjedmnnlaaDoorG
attribute [local go_sem] max2_int min2_int max_two min_two max_three min_three max_four min_four   -- for this text's walks alone
set_option linter.unusedVariables false
set_option linter.unusedSimpArgs false

attribute [local go_sem high] eqA23
/-! ### portreevelaw12_AutoIds: function 6 -/
mutual
def portreevelaw12_AutoIds.j0 : Nat → Bool → List Int → Bool → Int → Int → Int → Int → Int → Int → Int → Int → Option (Bool)
  | 0, _, _, _, _, _, _, _, _, _, _, _ => none
  | k + 1, x5, x7, x9, x761000, x761001, x761002, x761003, x772000, x772001, x772002, x772003 => (portreeveref11_Has.f k x7 5).bind fun t774 => (if t774 = true then ((portreeveref11_Has.f k x7 10).bind fun t775 => (if t775 = true then (portreevelaw12_AutoIds.j1 k x5 x7 x9 2 x761000 x761001 x761002 x761003 x772000 x772001 x772002 x772003) else (portreevelaw12_AutoIds.j1 k x5 x7 x9 5 x761000 x761001 x761002 x761003 x772000 x772001 x772002 x772003))) else (portreevelaw12_AutoIds.j1 k x5 x7 x9 x761001 x761000 x761001 x761002 x761003 x772000 x772001 x772002 x772003))
def portreevelaw12_AutoIds.j1 : Nat → Bool → List Int → Bool → Int → Int → Int → Int → Int → Int → Int → Int → Int → Option (Bool)
  | 0, _, _, _, _, _, _, _, _, _, _, _, _ => none
  | k + 1, x5, x7, x9, x10, x761000, x761001, x761002, x761003, x772000, x772001, x772002, x772003 => (portreeveref11_Has.f k x7 6).bind fun t776 => (if t776 = true then (portreevelaw12_AutoIds.j2 k x5 x9 0 x761000 x761001 x761002 x761003 x772000 x772001 x772002 x772003) else (portreevelaw12_AutoIds.j2 k x5 x9 x10 x761000 x761001 x761002 x761003 x772000 x772001 x772002 x772003))
def portreevelaw12_AutoIds.j2 : Nat → Bool → Bool → Int → Int → Int → Int → Int → Int → Int → Int → Int → Option (Bool)
  | 0, _, _, _, _, _, _, _, _, _, _, _ => none
  | k + 1, x5, x9, x10, x761000, x761001, x761002, x761003, x772000, x772001, x772002, x772003 => if x9 = true then (if x5 = true then (if x772003 = ((x761003 + 1) % 256) then (if x772002 = 3 then (some (x772001 == (mx (wrap64 (x10 - 1)) 0))) else (some false)) else (some false)) else (some false)) else (if x5 = true then (if x772003 = x761003 then (some (x772001 == x10)) else (some false)) else (some false))
end
def portreevelaw12_AutoIds.f (k : Nat) (a0_0 : Int) (a0_1 : Int) (a0_2 : Int) (a0_3 : Int) (a1 : Int) : Option (Bool) := (portreevelaw12_shown.f k).bind fun t761 => ((portreeveref12_Right.f k a0_0 a0_1 a0_2 a0_3).bind fun t762 => (if t762 = true then ((auto_Do.f a0_0 a0_1 a0_2 a0_3 a1).bind fun bt763 => (if bt763.2.2.2.2.2 = 0 then ((portreeveref11_Has.f k bt763.2.2.2.2.1 7).bind fun t772 => (if t772 = true then (portreevelaw12_AutoIds.j0 k t761 bt763.2.2.2.2.1 true a0_0 a0_1 a0_2 a0_3 bt763.1 bt763.2.1 bt763.2.2.1 bt763.2.2.2.1) else ((portreeveref11_Has.f k bt763.2.2.2.2.1 10).bind fun t773 => (portreevelaw12_AutoIds.j0 k t761 bt763.2.2.2.2.1 t773 a0_0 a0_1 a0_2 a0_3 bt763.1 bt763.2.1 bt763.2.2.1 bt763.2.2.2.1)))) else (if t761 = true then (if (bt763.1 == a0_0 && (bt763.2.1 == a0_1 && (bt763.2.2.1 == a0_2 && (bt763.2.2.2.1 == a0_3)))) = true then (some ((bt763.2.2.2.2.1.length : Int) == 0)) else (some false)) else (some false)))) else (some t761)))
theorem portreevelaw12_AutoIds.mono_l : ∀ k, (∀ y0 y1 y2 y3 y4 y5 y6 y7 y8 y9 y10, LeO (portreevelaw12_AutoIds.j0 k y0 y1 y2 y3 y4 y5 y6 y7 y8 y9 y10) (portreevelaw12_AutoIds.j0 (k + 1) y0 y1 y2 y3 y4 y5 y6 y7 y8 y9 y10)) ∧ (∀ y0 y1 y2 y3 y4 y5 y6 y7 y8 y9 y10 y11, LeO (portreevelaw12_AutoIds.j1 k y0 y1 y2 y3 y4 y5 y6 y7 y8 y9 y10 y11) (portreevelaw12_AutoIds.j1 (k + 1) y0 y1 y2 y3 y4 y5 y6 y7 y8 y9 y10 y11)) ∧ (∀ y0 y1 y2 y3 y4 y5 y6 y7 y8 y9 y10, LeO (portreevelaw12_AutoIds.j2 k y0 y1 y2 y3 y4 y5 y6 y7 y8 y9 y10) (portreevelaw12_AutoIds.j2 (k + 1) y0 y1 y2 y3 y4 y5 y6 y7 y8 y9 y10))
  | 0 => ⟨fun _ _ _ _ _ _ _ _ _ _ _ r h => by simp [portreevelaw12_AutoIds.j0] at h, fun _ _ _ _ _ _ _ _ _ _ _ _ r h => by simp [portreevelaw12_AutoIds.j1] at h, fun _ _ _ _ _ _ _ _ _ _ _ r h => by simp [portreevelaw12_AutoIds.j2] at h⟩
  | k + 1 => by
    obtain ⟨ih0, ih1, ih2⟩ := portreevelaw12_AutoIds.mono_l k
    refine ⟨?_, ?_, ?_⟩
    · intro y0 y1 y2 y3 y4 y5 y6 y7 y8 y9 y10
      unfold portreevelaw12_AutoIds.j0
      repeat' first
      | (with_reducible exact ih0 _ _ _ _ _ _ _ _ _ _ _)
      | (with_reducible exact ih1 _ _ _ _ _ _ _ _ _ _ _ _)
      | (with_reducible exact ih2 _ _ _ _ _ _ _ _ _ _ _)
      | (with_reducible exact portreevelaw12_shown.mono _)
      | (with_reducible exact portreeveref11_Has.mono _ _ _)
      | (with_reducible exact portreeveref12_Right.mono _ _ _ _ _)
      | (with_reducible exact LeO.refl _)
      | (with_reducible exact LeO.none _)
      | (with_reducible refine LeO.ite ?_ ?_)
      | (with_reducible refine LeO.bind ?_ (fun _ => ?_))
      | exact ih0 _ _ _ _ _ _ _ _ _ _ _
      | exact ih1 _ _ _ _ _ _ _ _ _ _ _ _
      | exact ih2 _ _ _ _ _ _ _ _ _ _ _
      | exact portreevelaw12_shown.mono _
      | exact portreeveref11_Has.mono _ _ _
      | exact portreeveref12_Right.mono _ _ _ _ _
      | exact LeO.none _
      | refine LeO.ite ?_ ?_
      | refine LeO.bind ?_ (fun _ => ?_)
    · intro y0 y1 y2 y3 y4 y5 y6 y7 y8 y9 y10 y11
      unfold portreevelaw12_AutoIds.j1
      repeat' first
      | (with_reducible exact ih0 _ _ _ _ _ _ _ _ _ _ _)
      | (with_reducible exact ih1 _ _ _ _ _ _ _ _ _ _ _ _)
      | (with_reducible exact ih2 _ _ _ _ _ _ _ _ _ _ _)
      | (with_reducible exact portreevelaw12_shown.mono _)
      | (with_reducible exact portreeveref11_Has.mono _ _ _)
      | (with_reducible exact portreeveref12_Right.mono _ _ _ _ _)
      | (with_reducible exact LeO.refl _)
      | (with_reducible exact LeO.none _)
      | (with_reducible refine LeO.ite ?_ ?_)
      | (with_reducible refine LeO.bind ?_ (fun _ => ?_))
      | exact ih0 _ _ _ _ _ _ _ _ _ _ _
      | exact ih1 _ _ _ _ _ _ _ _ _ _ _ _
      | exact ih2 _ _ _ _ _ _ _ _ _ _ _
      | exact portreevelaw12_shown.mono _
      | exact portreeveref11_Has.mono _ _ _
      | exact portreeveref12_Right.mono _ _ _ _ _
      | exact LeO.none _
      | refine LeO.ite ?_ ?_
      | refine LeO.bind ?_ (fun _ => ?_)
    · intro y0 y1 y2 y3 y4 y5 y6 y7 y8 y9 y10
      unfold portreevelaw12_AutoIds.j2
      repeat' first
      | (with_reducible exact ih0 _ _ _ _ _ _ _ _ _ _ _)
      | (with_reducible exact ih1 _ _ _ _ _ _ _ _ _ _ _ _)
      | (with_reducible exact ih2 _ _ _ _ _ _ _ _ _ _ _)
      | (with_reducible exact portreevelaw12_shown.mono _)
      | (with_reducible exact portreeveref11_Has.mono _ _ _)
      | (with_reducible exact portreeveref12_Right.mono _ _ _ _ _)
      | (with_reducible exact LeO.refl _)
      | (with_reducible exact LeO.none _)
      | (with_reducible refine LeO.ite ?_ ?_)
      | (with_reducible refine LeO.bind ?_ (fun _ => ?_))
      | exact ih0 _ _ _ _ _ _ _ _ _ _ _
      | exact ih1 _ _ _ _ _ _ _ _ _ _ _ _
      | exact ih2 _ _ _ _ _ _ _ _ _ _ _
      | exact portreevelaw12_shown.mono _
      | exact portreeveref11_Has.mono _ _ _
      | exact portreeveref12_Right.mono _ _ _ _ _
      | exact LeO.none _
      | refine LeO.ite ?_ ?_
      | refine LeO.bind ?_ (fun _ => ?_)
theorem portreevelaw12_AutoIds.mono : ∀ a0 a1 a2 a3 a4 k, LeO (portreevelaw12_AutoIds.f k a0 a1 a2 a3 a4) (portreevelaw12_AutoIds.f (k + 1) a0 a1 a2 a3 a4) := by
  intro a0 a1 a2 a3 a4 k
  obtain ⟨ih0, ih1, ih2⟩ := portreevelaw12_AutoIds.mono_l k
  unfold portreevelaw12_AutoIds.f
  repeat' first
      | (with_reducible exact ih0 _ _ _ _ _ _ _ _ _ _ _)
      | (with_reducible exact ih1 _ _ _ _ _ _ _ _ _ _ _ _)
      | (with_reducible exact ih2 _ _ _ _ _ _ _ _ _ _ _)
      | (with_reducible exact portreevelaw12_shown.mono _)
      | (with_reducible exact portreeveref11_Has.mono _ _ _)
      | (with_reducible exact portreeveref12_Right.mono _ _ _ _ _)
      | (with_reducible exact LeO.refl _)
      | (with_reducible exact LeO.none _)
      | (with_reducible refine LeO.ite ?_ ?_)
      | (with_reducible refine LeO.bind ?_ (fun _ => ?_))
      | exact ih0 _ _ _ _ _ _ _ _ _ _ _
      | exact ih1 _ _ _ _ _ _ _ _ _ _ _ _
      | exact ih2 _ _ _ _ _ _ _ _ _ _ _
      | exact portreevelaw12_shown.mono _
      | exact portreeveref11_Has.mono _ _ _
      | exact portreeveref12_Right.mono _ _ _ _ _
      | exact LeO.none _
      | refine LeO.ite ?_ ?_
      | refine LeO.bind ?_ (fun _ => ?_)
set_option maxHeartbeats 8000000 in
set_option maxRecDepth 100000 in
theorem portreevelaw12_AutoIds.calls (k : Nat) (a0_0 : Int) (a0_1 : Int) (a0_2 : Int) (a0_3 : Int) (a1 : Int) (r : Bool) (w : World) (hlaw_ : Aside0 (r = true)) (hgl : Gl w) (h : portreevelaw12_AutoIds.f k a0_0 a0_1 a0_2 a0_3 a1 = some r) :
    Calls Tryd.prog 6 #[.agg #[.int .i64 a0_0, .int .i64 a0_1, .int .i64 a0_2, .int .u8 a0_3], .int .i64 a1] w fun e w' => e = .returned (.bool r) ∧ Below w.heap.size w w' := by
  have hu23 := Tryd.underlying23
  have HB := Aside0.mk (Below.refl w.heap.size w)
  have HGL := Aside0.mk hgl
  clear hgl
  have H : ((portreevelaw12_shown.f k).bind fun t761 => ((portreeveref12_Right.f k a0_0 a0_1 a0_2 a0_3).bind fun t762 => (if t762 = true then ((auto_Do.f a0_0 a0_1 a0_2 a0_3 a1).bind fun bt763 => (if bt763.2.2.2.2.2 = 0 then ((portreeveref11_Has.f k bt763.2.2.2.2.1 7).bind fun t772 => (if t772 = true then (portreevelaw12_AutoIds.j0 k t761 bt763.2.2.2.2.1 true a0_0 a0_1 a0_2 a0_3 bt763.1 bt763.2.1 bt763.2.2.1 bt763.2.2.2.1) else ((portreeveref11_Has.f k bt763.2.2.2.2.1 10).bind fun t773 => (portreevelaw12_AutoIds.j0 k t761 bt763.2.2.2.2.1 t773 a0_0 a0_1 a0_2 a0_3 bt763.1 bt763.2.1 bt763.2.2.1 bt763.2.2.2.1)))) else (if t761 = true then (if (bt763.1 == a0_0 && (bt763.2.1 == a0_1 && (bt763.2.2.1 == a0_2 && (bt763.2.2.2.1 == a0_3)))) = true then (some ((bt763.2.2.2.2.1.length : Int) == 0)) else (some false)) else (some false)))) else (some t761)))) = some r := h
  clear h
  replace H := Option.bind_eq_some_iff.mp H
  obtain ⟨t761, A30, H⟩ := H
  replace H : ((portreeveref12_Right.f k a0_0 a0_1 a0_2 a0_3).bind fun t762 => (if t762 = true then ((auto_Do.f a0_0 a0_1 a0_2 a0_3 a1).bind fun bt763 => (if bt763.2.2.2.2.2 = 0 then ((portreeveref11_Has.f k bt763.2.2.2.2.1 7).bind fun t772 => (if t772 = true then (portreevelaw12_AutoIds.j0 k t761 bt763.2.2.2.2.1 true a0_0 a0_1 a0_2 a0_3 bt763.1 bt763.2.1 bt763.2.2.1 bt763.2.2.2.1) else ((portreeveref11_Has.f k bt763.2.2.2.2.1 10).bind fun t773 => (portreevelaw12_AutoIds.j0 k t761 bt763.2.2.2.2.1 t773 a0_0 a0_1 a0_2 a0_3 bt763.1 bt763.2.1 bt763.2.2.1 bt763.2.2.2.1)))) else (if t761 = true then (if (bt763.1 == a0_0 && (bt763.2.1 == a0_1 && (bt763.2.2.1 == a0_2 && (bt763.2.2.2.1 == a0_3)))) = true then (some ((bt763.2.2.2.2.1.length : Int) == 0)) else (some false)) else (some false)))) else (some t761))) = some r := H
  have A3 := Aside0.mk A30
  clear A30
  replace H := Option.bind_eq_some_iff.mp H
  obtain ⟨t762, A40, H⟩ := H
  replace H : (if t762 = true then ((auto_Do.f a0_0 a0_1 a0_2 a0_3 a1).bind fun bt763 => (if bt763.2.2.2.2.2 = 0 then ((portreeveref11_Has.f k bt763.2.2.2.2.1 7).bind fun t772 => (if t772 = true then (portreevelaw12_AutoIds.j0 k t761 bt763.2.2.2.2.1 true a0_0 a0_1 a0_2 a0_3 bt763.1 bt763.2.1 bt763.2.2.1 bt763.2.2.2.1) else ((portreeveref11_Has.f k bt763.2.2.2.2.1 10).bind fun t773 => (portreevelaw12_AutoIds.j0 k t761 bt763.2.2.2.2.1 t773 a0_0 a0_1 a0_2 a0_3 bt763.1 bt763.2.1 bt763.2.2.1 bt763.2.2.2.1)))) else (if t761 = true then (if (bt763.1 == a0_0 && (bt763.2.1 == a0_1 && (bt763.2.2.1 == a0_2 && (bt763.2.2.2.1 == a0_3)))) = true then (some ((bt763.2.2.2.2.1.length : Int) == 0)) else (some false)) else (some false)))) else (some t761)) = some r := H
  have A4 := Aside0.mk A40
  clear A40
  by_cases c5 : t762 = true
  · subst c5
    have H1 : ((auto_Do.f a0_0 a0_1 a0_2 a0_3 a1).bind fun bt763 => (if bt763.2.2.2.2.2 = 0 then ((portreeveref11_Has.f k bt763.2.2.2.2.1 7).bind fun t772 => (if t772 = true then (portreevelaw12_AutoIds.j0 k t761 bt763.2.2.2.2.1 true a0_0 a0_1 a0_2 a0_3 bt763.1 bt763.2.1 bt763.2.2.1 bt763.2.2.2.1) else ((portreeveref11_Has.f k bt763.2.2.2.2.1 10).bind fun t773 => (portreevelaw12_AutoIds.j0 k t761 bt763.2.2.2.2.1 t773 a0_0 a0_1 a0_2 a0_3 bt763.1 bt763.2.1 bt763.2.2.1 bt763.2.2.2.1)))) else (if t761 = true then (if (bt763.1 == a0_0 && (bt763.2.1 == a0_1 && (bt763.2.2.1 == a0_2 && (bt763.2.2.2.1 == a0_3)))) = true then (some ((bt763.2.2.2.2.1.length : Int) == 0)) else (some false)) else (some false)))) = some r := by rw [if_pos rfl] at H; exact H
    clear H
    have H := H1
    clear H1
    replace H := Option.bind_eq_some_iff.mp H
    obtain ⟨⟨t763, t764, t765, t766, t767, t770⟩, A60, H⟩ := H
    replace H : (if t770 = 0 then ((portreeveref11_Has.f k t767 7).bind fun t772 => (if t772 = true then (portreevelaw12_AutoIds.j0 k t761 t767 true a0_0 a0_1 a0_2 a0_3 t763 t764 t765 t766) else ((portreeveref11_Has.f k t767 10).bind fun t773 => (portreevelaw12_AutoIds.j0 k t761 t767 t773 a0_0 a0_1 a0_2 a0_3 t763 t764 t765 t766)))) else (if t761 = true then (if (t763 == a0_0 && (t764 == a0_1 && (t765 == a0_2 && (t766 == a0_3)))) = true then (some ((t767.length : Int) == 0)) else (some false)) else (some false))) = some r := H
    have A6 := Aside0.mk A60
    clear A60
    by_cases c7 : t770 = 0
    · rw [if_pos c7] at H
      have c7b0 : (t770 == 0) = true := beq_iff_eq.mpr c7
      have c7b1 : (t770 != 0) = false := bne_eq_false_iff_eq.mpr c7
      clear c7
      have HC8 := Aside0.mk H
      clear H
      go_enter Tryd.func6, Tryd.ntmps6
      go_upto_region 7 with (first | ((with_reducible refine gate_dst (N := 2) rfl ?_); (try (refine gate_guard (by rfl) ?_; dsimp only)); refine box_event ?hg (N := 2) ?hd (cs := #[.int .i64 a0_0, .int .i64 a0_1, .int .i64 a0_2, .int .u8 a0_3]) (t := 23) ?hr ?_; (case hd => rfl); (case hg => rfl); (case hr => first | (go_simp; done) | (go_simp; rfl)); intro gb760 hg w9 hbox hb; have n0_ := Aside0.mk (below_step (by repeat (first | (with_reducible first | exact HB.out | apply pA | apply pN | apply pD) | exact HB.out)) hb); have n1_ := Aside0.mk (hbox); have n2_ := Aside0.mk ((by rw [hg]; exact (below_size (by repeat (first | (with_reducible first | exact HB.out | apply pA | apply pN | apply pD) | exact HB.out))) : w.heap.size ≤ gb760)); have n3_ := Aside0.mk ((by rw [hg]; exact (below_size (by repeat (first | (with_reducible first | exact HB.out | apply pA | apply pN | apply pD) | exact HB.out))) : w.heap.size ≤ gb760)); clear HB; have HB := n0_; have BK760 := n1_; have GW760 := n2_; have GE760 := n3_; clear n0_ n1_ n2_ n3_; clear hb hbox hg) | ((with_reducible refine gate_callee (f := 9) rfl ?_); refine goesL_ (some 11) rfl rfl Tryd.func9 (by kernel_rfl) rfl #[] rfl (by (try simp only [List.map_toArray, List.map_cons, List.map_nil]); first | done | rfl | (simp only [List.length_drop, List.length_take]; rfl)) ?_; (with_reducible refine (portreevelaw12_shown.calls k  t761 _ ?side1 A3.out).mono ?_); (case side1 => exact (HGL.out.below (by repeat (first | (with_reducible first | exact HB.out | apply pA | apply pN | apply pD | refine pS ?_ GE760.out) | exact HB.out)))); rintro e w10 ⟨rfl, hb⟩; refine ⟨_, rfl, ?_⟩; have n0_ := Aside0.mk (blk_below (g := gb760) (o := .cells #[.int .i64 a0_0, .int .i64 a0_1, .int .i64 a0_2, .int .u8 a0_3] 23 (0, 0)) (by (with_reducible repeat (first | refine qN ?_ _ | refine qD ?_ | refine qA ?_ _)); exact BK760.out) hb); have n1_ := Aside0.mk (below_step (by repeat (first | (with_reducible first | exact HB.out | apply pA | apply pN | apply pD | refine pS ?_ GE760.out) | exact HB.out)) hb); clear BK760; clear HB; have BK760 := n0_; have HB := n1_; clear n0_ n1_; (try clear hb); (try clear hb2); (try clear hk); (try clear hi); have hcz11_0 : w10.cell? ⟨gb760, 0, none⟩ = some (.int .i64 a0_0) := (blk_cell BK760.out 0).trans rfl; have hcz11_1 : w10.cell? ⟨gb760, 1, none⟩ = some (.int .i64 a0_1) := (blk_cell BK760.out 1).trans rfl; have hcz11_2 : w10.cell? ⟨gb760, 2, none⟩ = some (.int .i64 a0_2) := (blk_cell BK760.out 2).trans rfl; have hcz11_3 : w10.cell? ⟨gb760, 3, none⟩ = some (.int .u8 a0_3) := (blk_cell BK760.out 3).trans rfl; have hfz11_0 := blk_frozen BK760.out 0; have hfz11_1 := blk_frozen BK760.out 1; have hfz11_2 := blk_frozen BK760.out 2; have hfz11_3 := blk_frozen BK760.out 3) | ((with_reducible refine gate_callee (f := 10) rfl ?_); refine goesL_ (some 13) rfl rfl Tryd.func10 (by kernel_rfl) rfl #[.agg #[.int .i64 a0_0, .int .i64 a0_1, .int .i64 a0_2, .int .u8 a0_3]] rfl (by (try simp only [List.map_toArray, List.map_cons, List.map_nil]); first | done | rfl | (simp only [List.length_drop, List.length_take]; rfl)) ?_; (with_reducible refine (portreeveref12_Right.calls k a0_0 a0_1 a0_2 a0_3 true _ A4.out).mono ?_); rintro e w12 ⟨rfl, hb⟩; refine ⟨_, rfl, ?_⟩; have n0_ := Aside0.mk (blk_below (g := gb760) (o := .cells #[.int .i64 a0_0, .int .i64 a0_1, .int .i64 a0_2, .int .u8 a0_3] 23 (0, 0)) (by (with_reducible repeat (first | refine qN ?_ _ | refine qD ?_ | refine qA ?_ _)); exact BK760.out) hb); have n1_ := Aside0.mk (below_step (by repeat (first | (with_reducible first | exact HB.out | apply pA | apply pN | apply pD | refine pS ?_ GE760.out) | exact HB.out)) hb); clear BK760; clear HB; have BK760 := n0_; have HB := n1_; clear n0_ n1_; (try clear hb); (try clear hb2); (try clear hk); (try clear hi); have hcz13_0 : w12.cell? ⟨gb760, 0, none⟩ = some (.int .i64 a0_0) := (blk_cell BK760.out 0).trans rfl; have hcz13_1 : w12.cell? ⟨gb760, 1, none⟩ = some (.int .i64 a0_1) := (blk_cell BK760.out 1).trans rfl; have hcz13_2 : w12.cell? ⟨gb760, 2, none⟩ = some (.int .i64 a0_2) := (blk_cell BK760.out 2).trans rfl; have hcz13_3 : w12.cell? ⟨gb760, 3, none⟩ = some (.int .u8 a0_3) := (blk_cell BK760.out 3).trans rfl; have hfz13_0 := blk_frozen BK760.out 0; have hfz13_1 := blk_frozen BK760.out 1; have hfz13_2 := blk_frozen BK760.out 2; have hfz13_3 := blk_frozen BK760.out 3) | ((with_reducible refine gate_callee (f := 13) rfl ?_); refine goesL_ (some 19) rfl rfl Tryd.func13 (by kernel_rfl) rfl #[.agg #[.int .i64 a0_0, .int .i64 a0_1, .int .i64 a0_2, .int .u8 a0_3], .int .i64 a1] rfl (by (try simp only [List.map_toArray, List.map_cons, List.map_nil]); first | done | rfl | (simp only [List.length_drop, List.length_take]; rfl)) ?_; (with_reducible refine (auto_Do.calls a0_0 a0_1 a0_2 a0_3 a1 t763 t764 t765 t766 t767 t770 _ ?side1 A6.out).mono ?_); (case side1 => exact (HGL.out.below (by repeat (first | (with_reducible first | exact HB.out | apply pA | apply pN | apply pD | refine pS ?_ GE760.out) | exact HB.out)))); rintro e w14 ⟨v768, rfl, ho0, hb⟩; refine ⟨_, rfl, ?_⟩; have n0_ := Aside0.mk (Kd.R_lower ho0 (below_size (by repeat (first | (with_reducible first | exact HB.out | apply pA | apply pN | apply pD | refine pS ?_ GE760.out) | exact HB.out)))); have n1_ := Aside0.mk (blk_below (g := gb760) (o := .cells #[.int .i64 a0_0, .int .i64 a0_1, .int .i64 a0_2, .int .u8 a0_3] 23 (0, 0)) (by (with_reducible repeat (first | refine qN ?_ _ | refine qD ?_ | refine qA ?_ _)); exact BK760.out) hb); have n2_ := Aside0.mk (below_step (by repeat (first | (with_reducible first | exact HB.out | apply pA | apply pN | apply pD | refine pS ?_ GE760.out) | exact HB.out)) hb); clear BK760; clear HB; have HO769 := n0_; have BK760 := n1_; have HB := n2_; clear n0_ n1_ n2_; (try clear hb); (try clear hb2); (try clear hk); (try clear hi); (try clear ho0)) | ((with_reducible refine gate_dst (N := 6) rfl ?_); (try (refine gate_guard (by rfl) ?_; dsimp only)); refine box_event ?hg (N := 6) ?hd (cs := #[.int .i64 0, .int .i64 0, .int .i64 0, .int .u8 0]) (t := 23) ?hr ?_; (case hd => rfl); (case hg => rfl); (case hr => first | (go_simp; done) | (go_simp; rfl)); intro gb771 hg w15 hbox hb; have n0_ := Aside0.mk (Kd.R_below (by (with_reducible repeat (first | apply Kd.R_alloc | apply Kd.R_drewN | apply Kd.R_drew)); exact HO769.out) hb); have n1_ := Aside0.mk (blk_below (g := gb760) (o := .cells #[.int .i64 a0_0, .int .i64 a0_1, .int .i64 a0_2, .int .u8 a0_3] 23 (0, 0)) (by (with_reducible repeat (first | refine qN ?_ _ | refine qD ?_ | refine qA ?_ _)); exact BK760.out) hb); have n2_ := Aside0.mk (below_step (by repeat (first | (with_reducible first | exact HB.out | apply pA | apply pN | apply pD | refine pS ?_ GE760.out) | exact HB.out)) hb); have n3_ := Aside0.mk (hbox); have n4_ := Aside0.mk ((by rw [hg]; exact (below_size (by repeat (first | (with_reducible first | exact HB.out | apply pA | apply pN | apply pD | refine pS ?_ GE760.out) | exact HB.out))) : w.heap.size ≤ gb771)); have n5_ := Aside0.mk ((by rw [hg]; exact (below_size (by repeat (first | (with_reducible first | exact HB.out | apply pA | apply pN | apply pD | refine pS ?_ GE760.out) | exact HB.out))) : w.heap.size ≤ gb771)); have n6_ := Aside0.mk ((by rw [hg]; exact Nat.ne_of_lt (blk_lt (g := gb760) (o := .cells #[.int .i64 a0_0, .int .i64 a0_1, .int .i64 a0_2, .int .u8 a0_3] 23 (0, 0)) (by (with_reducible repeat (first | refine qN ?_ _ | refine qD ?_ | refine qA ?_ _)); exact BK760.out)) : gb760 ≠ gb771)); have n7_ := Aside0.mk ((by rw [hg]; exact Nat.ne_of_gt (blk_lt (g := gb760) (o := .cells #[.int .i64 a0_0, .int .i64 a0_1, .int .i64 a0_2, .int .u8 a0_3] 23 (0, 0)) (by (with_reducible repeat (first | refine qN ?_ _ | refine qD ?_ | refine qA ?_ _)); exact BK760.out)) : gb771 ≠ gb760)); clear HO769; clear BK760; clear HB; have HO769 := n0_; have BK760 := n1_; have HB := n2_; have BK771 := n3_; have GW771 := n4_; have GE771 := n5_; have NB760_771 := n6_; have NB771_760 := n7_; clear n0_ n1_ n2_ n3_ n4_ n5_ n6_ n7_; clear hb hbox hg; have hnb16 := NB771_760.out; have hnc16 := NB760_771.out; have hcz17_0 : w15.cell? ⟨gb771, 0, none⟩ = some (.int .i64 0) := (blk_cell BK771.out 0).trans rfl; have hcz17_1 : w15.cell? ⟨gb771, 1, none⟩ = some (.int .i64 0) := (blk_cell BK771.out 1).trans rfl; have hcz17_2 : w15.cell? ⟨gb771, 2, none⟩ = some (.int .i64 0) := (blk_cell BK771.out 2).trans rfl; have hcz17_3 : w15.cell? ⟨gb771, 3, none⟩ = some (.int .u8 0) := (blk_cell BK771.out 3).trans rfl; have hfz17_0 := blk_frozen BK771.out 0; have hfz17_1 := blk_frozen BK771.out 1; have hfz17_2 := blk_frozen BK771.out 2; have hfz17_3 := blk_frozen BK771.out 3))
      (try simp only [Act.put, List.setIfInBounds_toArray, List.set_cons_zero, List.set_cons_succ])
      go_cut [9] (fun v9 wc => ∃ (kq : Nat) (x9_7 : Bool), v9 = .bool x9_7 ∧ Aside0 (portreevelaw12_AutoIds.j0 kq t761 t767 x9_7 a0_0 a0_1 a0_2 a0_3 t763 t764 t765 t766 = some r) ∧ Aside0 (kq ≤ k) ∧ Aside0 (Kd.R (Kd.int .i64) 3 wc w.heap.size (fun _ => True) v768 t767) ∧ Aside0 (wc.heap[gb760]? = some (.cells #[.int .i64 a0_0, .int .i64 a0_1, .int .i64 a0_2, .int .u8 a0_3] 23 (0, 0))) ∧ Aside0 (wc.heap[gb771]? = some (.cells #[.int .i64 t763, .int .i64 t764, .int .i64 t765, .int .u8 t766] 23 (0, 0))) ∧ Aside0 (Below w.heap.size w wc))
      case first =>
        have H := HC8.out
        clear HC8
        replace H := Option.bind_eq_some_iff.mp H
        obtain ⟨t772, A180, H⟩ := H
        replace H : (if t772 = true then (portreevelaw12_AutoIds.j0 k t761 t767 true a0_0 a0_1 a0_2 a0_3 t763 t764 t765 t766) else ((portreeveref11_Has.f k t767 10).bind fun t773 => (portreevelaw12_AutoIds.j0 k t761 t767 t773 a0_0 a0_1 a0_2 a0_3 t763 t764 t765 t766))) = some r := H
        have A18 := Aside0.mk A180
        clear A180
        by_cases c19 : t772 = true
        · subst c19
          have H1 : (portreevelaw12_AutoIds.j0 k t761 t767 true a0_0 a0_1 a0_2 a0_3 t763 t764 t765 t766) = some r := by rw [if_pos rfl] at H; exact H
          clear H
          have H := H1
          clear H1
          have H' := Aside0.mk H
          clear H
          obtain ⟨Ao20, co20, eo20⟩ := Kd.R_slice HO769.out
          subst eo20
          go_wp2_with (first | ((with_reducible refine gate_callee (f := 20) rfl ?_); refine goesL_ (some 37) rfl rfl Tryd.func20 (by kernel_rfl) rfl #[.slice Ao20 t767.length co20, .int .i64 7] rfl (by (try simp only [List.map_toArray, List.map_cons, List.map_nil]); first | done | rfl | (simp only [List.length_drop, List.length_take]; rfl)) ?_; (with_reducible refine (portreeveref11_Has.calls k _ _ t767 7 true _ ?side1 ?side2 A18.out).mono ?_); (case side1 => refine (Kd.R_reads' (e := 3) (base := w.heap.size) (ok := fun k_ => True) (n := t767.length) (c := co20) ?_).2.2; exact (by (with_reducible repeat (first | apply Kd.R_alloc | apply Kd.R_drewN | apply Kd.R_drew)); exact (Kd.R_mono (Kd.R_far (p := ⟨gb771, 3, none⟩) (Kd.R_far (p := ⟨gb771, 2, none⟩) (Kd.R_far (p := ⟨gb771, 1, none⟩) (Kd.R_far (p := ⟨gb771, 0, none⟩) (Kd.R_types HO769.out BK771.out (by decide)) (fun _ hk => hk.2) (.int .i64 t763)) (fun _ hk => hk.2) (.int .i64 t764)) (fun _ hk => hk.2) (.int .i64 t765)) (fun _ hk => hk.2) (.int .u8 t766)) (fun _ h_ => h_.1)))); (case side2 => exact (Kd.R_reads' HO769.out).2.1); rintro e w' ⟨rfl, ⟨nd, rfl⟩⟩; refine ⟨_, rfl, ?_⟩))
          go_meet
          case rel => exact ⟨_, (true), (by first | rfl | (simp; done) | (simp [*]; done)), H', ⟨by first | omega | exact Nat.le_refl _⟩, ⟨by (with_reducible repeat (first | apply Kd.R_alloc | apply Kd.R_drewN | apply Kd.R_drew)); exact Kd.R_mono (Kd.R_far (p := ⟨gb771, 3, none⟩) (Kd.R_far (p := ⟨gb771, 2, none⟩) (Kd.R_far (p := ⟨gb771, 1, none⟩) (Kd.R_far (p := ⟨gb771, 0, none⟩) (Kd.R_types HO769.out BK771.out (by decide)) (fun _ hk => hk.2) (.int .i64 t763)) (fun _ hk => hk.2) (.int .i64 t764)) (fun _ hk => hk.2) (.int .i64 t765)) (fun _ hk => hk.2) (.int .u8 t766)) (fun _ hk => trivial)⟩, ⟨by (with_reducible repeat (first | refine qN ?_ _ | refine qD ?_ | refine qA ?_ _)); refine blk_far ?_ NB760_771.out _; (with_reducible repeat (first | refine qN ?_ _ | refine qD ?_ | refine qA ?_ _)); refine blk_far ?_ NB760_771.out _; (with_reducible repeat (first | refine qN ?_ _ | refine qD ?_ | refine qA ?_ _)); refine blk_far ?_ NB760_771.out _; (with_reducible repeat (first | refine qN ?_ _ | refine qD ?_ | refine qA ?_ _)); refine blk_far ?_ NB760_771.out _; (with_reducible repeat (first | refine qN ?_ _ | refine qD ?_ | refine qA ?_ _)); exact BK760.out⟩, ⟨by (with_reducible repeat (first | refine qN ?_ _ | refine qD ?_ | refine qA ?_ _)); refine blk_put (cs := #[.int .i64 t763, .int .i64 t764, .int .i64 t765, .int .u8 0]) ?_ 3 _ rfl; (with_reducible repeat (first | refine qN ?_ _ | refine qD ?_ | refine qA ?_ _)); refine blk_put (cs := #[.int .i64 t763, .int .i64 t764, .int .i64 0, .int .u8 0]) ?_ 2 _ rfl; (with_reducible repeat (first | refine qN ?_ _ | refine qD ?_ | refine qA ?_ _)); refine blk_put (cs := #[.int .i64 t763, .int .i64 0, .int .i64 0, .int .u8 0]) ?_ 1 _ rfl; (with_reducible repeat (first | refine qN ?_ _ | refine qD ?_ | refine qA ?_ _)); refine blk_put (cs := #[.int .i64 0, .int .i64 0, .int .i64 0, .int .u8 0]) ?_ 0 _ rfl; (with_reducible repeat (first | refine qN ?_ _ | refine qD ?_ | refine qA ?_ _)); exact BK771.out⟩, ⟨by repeat (first | (with_reducible first | exact HB.out | apply pA | apply pN | apply pD | refine pS ?_ GE760.out | refine pS ?_ GE771.out) | exact HB.out)⟩⟩
        · replace c19 := Bool.eq_false_iff.mpr c19
          subst c19
          have H1 : ((portreeveref11_Has.f k t767 10).bind fun t773 => (portreevelaw12_AutoIds.j0 k t761 t767 t773 a0_0 a0_1 a0_2 a0_3 t763 t764 t765 t766)) = some r := by rw [if_neg (show ¬ (false = true) by decide)] at H; exact H
          clear H
          have H := H1
          clear H1
          replace H := Option.bind_eq_some_iff.mp H
          obtain ⟨t773, A210, H⟩ := H
          replace H : (portreevelaw12_AutoIds.j0 k t761 t767 t773 a0_0 a0_1 a0_2 a0_3 t763 t764 t765 t766) = some r := H
          have A21 := Aside0.mk A210
          clear A210
          have H' := Aside0.mk H
          clear H
          obtain ⟨Ao22, co22, eo22⟩ := Kd.R_slice HO769.out
          subst eo22
          go_wp2_with (first | ((with_reducible refine gate_callee (f := 20) rfl ?_); refine goesL_ (some 37) rfl rfl Tryd.func20 (by kernel_rfl) rfl #[.slice Ao22 t767.length co22, .int .i64 7] rfl (by (try simp only [List.map_toArray, List.map_cons, List.map_nil]); first | done | rfl | (simp only [List.length_drop, List.length_take]; rfl)) ?_; (with_reducible refine (portreeveref11_Has.calls k _ _ t767 7 false _ ?side1 ?side2 A18.out).mono ?_); (case side1 => refine (Kd.R_reads' (e := 3) (base := w.heap.size) (ok := fun k_ => True) (n := t767.length) (c := co22) ?_).2.2; exact (by (with_reducible repeat (first | apply Kd.R_alloc | apply Kd.R_drewN | apply Kd.R_drew)); exact (Kd.R_mono (Kd.R_far (p := ⟨gb771, 3, none⟩) (Kd.R_far (p := ⟨gb771, 2, none⟩) (Kd.R_far (p := ⟨gb771, 1, none⟩) (Kd.R_far (p := ⟨gb771, 0, none⟩) (Kd.R_types HO769.out BK771.out (by decide)) (fun _ hk => hk.2) (.int .i64 t763)) (fun _ hk => hk.2) (.int .i64 t764)) (fun _ hk => hk.2) (.int .i64 t765)) (fun _ hk => hk.2) (.int .u8 t766)) (fun _ h_ => h_.1)))); (case side2 => exact (Kd.R_reads' HO769.out).2.1); rintro e w' ⟨rfl, ⟨nd, rfl⟩⟩; refine ⟨_, rfl, ?_⟩) | (go_at_call 20; (with_reducible refine (portreeveref11_Has.calls k _ _ t767 10 t773 _ ?side1 ?side2 A21.out).mono ?_); (case side1 => refine (Kd.R_reads' (e := 3) (base := w.heap.size) (ok := fun k_ => True) (n := t767.length) (c := co22) ?_).2.2; exact (by (with_reducible repeat (first | apply Kd.R_alloc | apply Kd.R_drewN | apply Kd.R_drew)); exact (Kd.R_mono (Kd.R_far (p := ⟨gb771, 3, none⟩) (Kd.R_far (p := ⟨gb771, 2, none⟩) (Kd.R_far (p := ⟨gb771, 1, none⟩) (Kd.R_far (p := ⟨gb771, 0, none⟩) (Kd.R_types HO769.out BK771.out (by decide)) (fun _ hk => hk.2) (.int .i64 t763)) (fun _ hk => hk.2) (.int .i64 t764)) (fun _ hk => hk.2) (.int .i64 t765)) (fun _ hk => hk.2) (.int .u8 t766)) (fun _ h_ => h_.1)))); (case side2 => exact (Kd.R_reads' HO769.out).2.1); rintro e w' ⟨rfl, ⟨nd, rfl⟩⟩))
          go_meet
          case rel => exact ⟨_, (t773), (by first | rfl | (simp; done) | (simp [*]; done)), H', ⟨by first | omega | exact Nat.le_refl _⟩, ⟨by (with_reducible repeat (first | apply Kd.R_alloc | apply Kd.R_drewN | apply Kd.R_drew)); exact Kd.R_mono (Kd.R_far (p := ⟨gb771, 3, none⟩) (Kd.R_far (p := ⟨gb771, 2, none⟩) (Kd.R_far (p := ⟨gb771, 1, none⟩) (Kd.R_far (p := ⟨gb771, 0, none⟩) (Kd.R_types HO769.out BK771.out (by decide)) (fun _ hk => hk.2) (.int .i64 t763)) (fun _ hk => hk.2) (.int .i64 t764)) (fun _ hk => hk.2) (.int .i64 t765)) (fun _ hk => hk.2) (.int .u8 t766)) (fun _ hk => trivial)⟩, ⟨by (with_reducible repeat (first | refine qN ?_ _ | refine qD ?_ | refine qA ?_ _)); refine blk_far ?_ NB760_771.out _; (with_reducible repeat (first | refine qN ?_ _ | refine qD ?_ | refine qA ?_ _)); refine blk_far ?_ NB760_771.out _; (with_reducible repeat (first | refine qN ?_ _ | refine qD ?_ | refine qA ?_ _)); refine blk_far ?_ NB760_771.out _; (with_reducible repeat (first | refine qN ?_ _ | refine qD ?_ | refine qA ?_ _)); refine blk_far ?_ NB760_771.out _; (with_reducible repeat (first | refine qN ?_ _ | refine qD ?_ | refine qA ?_ _)); exact BK760.out⟩, ⟨by (with_reducible repeat (first | refine qN ?_ _ | refine qD ?_ | refine qA ?_ _)); refine blk_put (cs := #[.int .i64 t763, .int .i64 t764, .int .i64 t765, .int .u8 0]) ?_ 3 _ rfl; (with_reducible repeat (first | refine qN ?_ _ | refine qD ?_ | refine qA ?_ _)); refine blk_put (cs := #[.int .i64 t763, .int .i64 t764, .int .i64 0, .int .u8 0]) ?_ 2 _ rfl; (with_reducible repeat (first | refine qN ?_ _ | refine qD ?_ | refine qA ?_ _)); refine blk_put (cs := #[.int .i64 t763, .int .i64 0, .int .i64 0, .int .u8 0]) ?_ 1 _ rfl; (with_reducible repeat (first | refine qN ?_ _ | refine qD ?_ | refine qA ?_ _)); refine blk_put (cs := #[.int .i64 0, .int .i64 0, .int .i64 0, .int .u8 0]) ?_ 0 _ rfl; (with_reducible repeat (first | refine qN ?_ _ | refine qD ?_ | refine qA ?_ _)); exact BK771.out⟩, ⟨by repeat (first | (with_reducible first | exact HB.out | apply pA | apply pN | apply pD | refine pS ?_ GE760.out | refine pS ?_ GE771.out) | exact HB.out)⟩⟩
      case rest =>
        clear HC8
        try clear c1
        try clear c2
        try clear p2
        try clear c5
        try clear c6
        try clear c7
        try clear c7b0
        try clear c7b1
        try clear c9
        try clear c10
        try clear c13
        try clear c16
        try clear c19
        try clear c20
        try clear hcz11_0
        try clear hcz11_1
        try clear hcz11_2
        try clear hcz11_3
        try clear hcz13_0
        try clear hcz13_1
        try clear hcz13_2
        try clear hcz13_3
        try clear hcz17_0
        try clear hcz17_1
        try clear hcz17_2
        try clear hcz17_3
        try clear hfz11_0
        try clear hfz11_1
        try clear hfz11_2
        try clear hfz11_3
        try clear hfz13_0
        try clear hfz13_1
        try clear hfz13_2
        try clear hfz13_3
        try clear hfz17_0
        try clear hfz17_1
        try clear hfz17_2
        try clear hfz17_3
        obtain ⟨kq, x9_7, rfl, HA, HJ7, HO_7, BK760, BK771, HB⟩ := hcut
        cases kq with
        | zero => exact absurd HA.out (by simp [portreevelaw12_AutoIds.j0])
        | succ kj7 =>
          have H := HA.out
          clear HA
          simp only [portreevelaw12_AutoIds.j0] at H
          replace H := Option.bind_eq_some_iff.mp H
          obtain ⟨t774, A230, H⟩ := H
          replace H : (if t774 = true then ((portreeveref11_Has.f kj7 t767 10).bind fun t775 => (if t775 = true then (portreevelaw12_AutoIds.j1 kj7 t761 t767 x9_7 2 a0_0 a0_1 a0_2 a0_3 t763 t764 t765 t766) else (portreevelaw12_AutoIds.j1 kj7 t761 t767 x9_7 5 a0_0 a0_1 a0_2 a0_3 t763 t764 t765 t766))) else (portreevelaw12_AutoIds.j1 kj7 t761 t767 x9_7 a0_1 a0_0 a0_1 a0_2 a0_3 t763 t764 t765 t766)) = some r := H
          have A23 := Aside0.mk A230
          clear A230
          have HC24 := Aside0.mk H
          clear H
          have hnb25 := NB760_771.out
          have hnc25 := NB771_760.out
          have hcz26_0 : wc.cell? ⟨gb760, 0, none⟩ = some (.int .i64 a0_0) := (blk_cell BK760.out 0).trans rfl
          have hcz26_1 : wc.cell? ⟨gb760, 1, none⟩ = some (.int .i64 a0_1) := (blk_cell BK760.out 1).trans rfl
          have hcz26_2 : wc.cell? ⟨gb760, 2, none⟩ = some (.int .i64 a0_2) := (blk_cell BK760.out 2).trans rfl
          have hcz26_3 : wc.cell? ⟨gb760, 3, none⟩ = some (.int .u8 a0_3) := (blk_cell BK760.out 3).trans rfl
          have hfz26_0 := blk_frozen BK760.out 0
          have hfz26_1 := blk_frozen BK760.out 1
          have hfz26_2 := blk_frozen BK760.out 2
          have hfz26_3 := blk_frozen BK760.out 3
          obtain ⟨Ao27, co27, eo27⟩ := Kd.R_slice HO_7.out
          subst eo27
          go_upto_if 45 with (first | ((with_reducible refine gate_callee (f := 20) rfl ?_); refine goesL_ (some 45) rfl rfl Tryd.func20 (by kernel_rfl) rfl #[.slice Ao27 t767.length co27, .int .i64 5] rfl (by (try simp only [List.map_toArray, List.map_cons, List.map_nil]); first | done | rfl | (simp only [List.length_drop, List.length_take]; rfl)) ?_; (with_reducible refine (portreeveref11_Has.calls kj7 _ _ t767 5 t774 _ ?side1 ?side2 A23.out).mono ?_); (case side1 => repeat (first | exact (Kd.R_reads' HO_7.out).2.2 | (with_reducible refine Kd.C_alloc ?_ _) | (with_reducible refine Kd.C_drewN ?_ _) | (with_reducible refine Kd.C_drew ?_))); (case side2 => exact (Kd.R_reads' HO_7.out).2.1); rintro e w' ⟨rfl, ⟨nd, rfl⟩⟩; refine ⟨_, rfl, ?_⟩))
          (try simp only [Act.put, List.setIfInBounds_toArray, List.set_cons_zero, List.set_cons_succ])
          go_cut [10] (fun v10 wc => ∃ (kq : Nat) (x10_23 : Int), v10 = .int .i64 x10_23 ∧ Aside0 (portreevelaw12_AutoIds.j1 kq t761 t767 x9_7 x10_23 a0_0 a0_1 a0_2 a0_3 t763 t764 t765 t766 = some r) ∧ Aside0 (kq ≤ kj7) ∧ Aside0 (Kd.R (Kd.int .i64) 3 wc w.heap.size (fun _ => True) (.slice Ao27 t767.length co27) t767) ∧ Aside0 (wc.heap[gb760]? = some (.cells #[.int .i64 a0_0, .int .i64 a0_1, .int .i64 a0_2, .int .u8 a0_3] 23 (0, 0))) ∧ Aside0 (wc.heap[gb771]? = some (.cells #[.int .i64 t763, .int .i64 t764, .int .i64 t765, .int .u8 t766] 23 (0, 0))) ∧ Aside0 (Below w.heap.size w wc))
          case first =>
            have H := HC24.out
            clear HC24
            by_cases c28 : t774 = true
            · subst c28
              have H1 : ((portreeveref11_Has.f kj7 t767 10).bind fun t775 => (if t775 = true then (portreevelaw12_AutoIds.j1 kj7 t761 t767 x9_7 2 a0_0 a0_1 a0_2 a0_3 t763 t764 t765 t766) else (portreevelaw12_AutoIds.j1 kj7 t761 t767 x9_7 5 a0_0 a0_1 a0_2 a0_3 t763 t764 t765 t766))) = some r := by rw [if_pos rfl] at H; exact H
              clear H
              have H := H1
              clear H1
              replace H := Option.bind_eq_some_iff.mp H
              obtain ⟨t775, A290, H⟩ := H
              replace H : (if t775 = true then (portreevelaw12_AutoIds.j1 kj7 t761 t767 x9_7 2 a0_0 a0_1 a0_2 a0_3 t763 t764 t765 t766) else (portreevelaw12_AutoIds.j1 kj7 t761 t767 x9_7 5 a0_0 a0_1 a0_2 a0_3 t763 t764 t765 t766)) = some r := H
              have A29 := Aside0.mk A290
              clear A290
              by_cases c30 : t775 = true
              · subst c30
                have H1 : (portreevelaw12_AutoIds.j1 kj7 t761 t767 x9_7 2 a0_0 a0_1 a0_2 a0_3 t763 t764 t765 t766) = some r := by rw [if_pos rfl] at H; exact H
                clear H
                have H := H1
                clear H1
                have H' := Aside0.mk H
                clear H
                go_wp2_with (first | ((with_reducible refine gate_callee (f := 20) rfl ?_); refine goesL_ (some 47) rfl rfl Tryd.func20 (by kernel_rfl) rfl #[.slice Ao27 t767.length co27, .int .i64 10] rfl (by (try simp only [List.map_toArray, List.map_cons, List.map_nil]); first | done | rfl | (simp only [List.length_drop, List.length_take]; rfl)) ?_; (with_reducible refine (portreeveref11_Has.calls kj7 _ _ t767 10 true _ ?side1 ?side2 A29.out).mono ?_); (case side1 => repeat (first | exact (Kd.R_reads' HO_7.out).2.2 | (with_reducible refine Kd.C_alloc ?_ _) | (with_reducible refine Kd.C_drewN ?_ _) | (with_reducible refine Kd.C_drew ?_))); (case side2 => exact (Kd.R_reads' HO_7.out).2.1); rintro e w' ⟨rfl, ⟨nd, rfl⟩⟩; refine ⟨_, rfl, ?_⟩))
                go_meet
                case rel => exact ⟨_, (2), (by first | rfl | (simp; done) | (simp [*]; done)), H', ⟨by have := HJ7.out; first | omega | exact Nat.le_refl _⟩, ⟨by (with_reducible repeat (first | apply Kd.R_alloc | apply Kd.R_drewN | apply Kd.R_drew)); exact HO_7.out⟩, ⟨by (with_reducible repeat (first | refine qN ?_ _ | refine qD ?_ | refine qA ?_ _)); exact BK760.out⟩, ⟨by (with_reducible repeat (first | refine qN ?_ _ | refine qD ?_ | refine qA ?_ _)); exact BK771.out⟩, ⟨by repeat (first | (with_reducible first | exact HB.out | apply pA | apply pN | apply pD | refine pS ?_ GE760.out | refine pS ?_ GE771.out) | exact HB.out)⟩⟩
              · replace c30 := Bool.eq_false_iff.mpr c30
                subst c30
                have H1 : (portreevelaw12_AutoIds.j1 kj7 t761 t767 x9_7 5 a0_0 a0_1 a0_2 a0_3 t763 t764 t765 t766) = some r := by rw [if_neg (show ¬ (false = true) by decide)] at H; exact H
                clear H
                have H := H1
                clear H1
                have H' := Aside0.mk H
                clear H
                go_wp2_with (first | ((with_reducible refine gate_callee (f := 20) rfl ?_); refine goesL_ (some 47) rfl rfl Tryd.func20 (by kernel_rfl) rfl #[.slice Ao27 t767.length co27, .int .i64 10] rfl (by (try simp only [List.map_toArray, List.map_cons, List.map_nil]); first | done | rfl | (simp only [List.length_drop, List.length_take]; rfl)) ?_; (with_reducible refine (portreeveref11_Has.calls kj7 _ _ t767 10 false _ ?side1 ?side2 A29.out).mono ?_); (case side1 => repeat (first | exact (Kd.R_reads' HO_7.out).2.2 | (with_reducible refine Kd.C_alloc ?_ _) | (with_reducible refine Kd.C_drewN ?_ _) | (with_reducible refine Kd.C_drew ?_))); (case side2 => exact (Kd.R_reads' HO_7.out).2.1); rintro e w' ⟨rfl, ⟨nd, rfl⟩⟩; refine ⟨_, rfl, ?_⟩))
                go_meet
                case rel => exact ⟨_, (5), (by first | rfl | (simp; done) | (simp [*]; done)), H', ⟨by have := HJ7.out; first | omega | exact Nat.le_refl _⟩, ⟨by (with_reducible repeat (first | apply Kd.R_alloc | apply Kd.R_drewN | apply Kd.R_drew)); exact HO_7.out⟩, ⟨by (with_reducible repeat (first | refine qN ?_ _ | refine qD ?_ | refine qA ?_ _)); exact BK760.out⟩, ⟨by (with_reducible repeat (first | refine qN ?_ _ | refine qD ?_ | refine qA ?_ _)); exact BK771.out⟩, ⟨by repeat (first | (with_reducible first | exact HB.out | apply pA | apply pN | apply pD | refine pS ?_ GE760.out | refine pS ?_ GE771.out) | exact HB.out)⟩⟩
            · replace c28 := Bool.eq_false_iff.mpr c28
              subst c28
              have H1 : (portreevelaw12_AutoIds.j1 kj7 t761 t767 x9_7 a0_1 a0_0 a0_1 a0_2 a0_3 t763 t764 t765 t766) = some r := by rw [if_neg (show ¬ (false = true) by decide)] at H; exact H
              clear H
              have H := H1
              clear H1
              have H' := Aside0.mk H
              clear H
              go_wp2
              go_meet
              case rel => exact ⟨_, (a0_1), (by first | rfl | (simp; done) | (simp [*]; done)), H', ⟨by have := HJ7.out; first | omega | exact Nat.le_refl _⟩, ⟨by (with_reducible repeat (first | apply Kd.R_alloc | apply Kd.R_drewN | apply Kd.R_drew)); exact HO_7.out⟩, ⟨by (with_reducible repeat (first | refine qN ?_ _ | refine qD ?_ | refine qA ?_ _)); exact BK760.out⟩, ⟨by (with_reducible repeat (first | refine qN ?_ _ | refine qD ?_ | refine qA ?_ _)); exact BK771.out⟩, ⟨by repeat (first | (with_reducible first | exact HB.out | apply pA | apply pN | apply pD | refine pS ?_ GE760.out | refine pS ?_ GE771.out) | exact HB.out)⟩⟩
          case rest =>
            clear HC24
            try clear c1
            try clear c2
            try clear p2
            try clear c3
            try clear c5
            try clear c6
            try clear c7
            try clear c7b0
            try clear c7b1
            try clear c9
            try clear c10
            try clear c13
            try clear c16
            try clear c19
            try clear c20
            try clear c25
            try clear c28
            try clear c30
            try clear hcz11_0
            try clear hcz11_1
            try clear hcz11_2
            try clear hcz11_3
            try clear hcz13_0
            try clear hcz13_1
            try clear hcz13_2
            try clear hcz13_3
            try clear hcz17_0
            try clear hcz17_1
            try clear hcz17_2
            try clear hcz17_3
            try clear hcz26_0
            try clear hcz26_1
            try clear hcz26_2
            try clear hcz26_3
            try clear hfz11_0
            try clear hfz11_1
            try clear hfz11_2
            try clear hfz11_3
            try clear hfz13_0
            try clear hfz13_1
            try clear hfz13_2
            try clear hfz13_3
            try clear hfz17_0
            try clear hfz17_1
            try clear hfz17_2
            try clear hfz17_3
            try clear hfz26_0
            try clear hfz26_1
            try clear hfz26_2
            try clear hfz26_3
            try clear p2
            obtain ⟨kq, x10_23, rfl, HA, HJ23, HO_7, BK760, BK771, HB⟩ := hcut
            cases kq with
            | zero => exact absurd HA.out (by simp [portreevelaw12_AutoIds.j1])
            | succ kj23 =>
              have H := HA.out
              clear HA
              simp only [portreevelaw12_AutoIds.j1] at H
              replace H := Option.bind_eq_some_iff.mp H
              obtain ⟨t776, A310, H⟩ := H
              replace H : (if t776 = true then (portreevelaw12_AutoIds.j2 kj23 t761 x9_7 0 a0_0 a0_1 a0_2 a0_3 t763 t764 t765 t766) else (portreevelaw12_AutoIds.j2 kj23 t761 x9_7 x10_23 a0_0 a0_1 a0_2 a0_3 t763 t764 t765 t766)) = some r := H
              have A31 := Aside0.mk A310
              clear A310
              have HC32 := Aside0.mk H
              clear H
              go_upto_if 49 with (first | ((with_reducible refine gate_callee (f := 20) rfl ?_); refine goesL_ (some 49) rfl rfl Tryd.func20 (by kernel_rfl) rfl #[.slice Ao27 t767.length co27, .int .i64 6] rfl (by (try simp only [List.map_toArray, List.map_cons, List.map_nil]); first | done | rfl | (simp only [List.length_drop, List.length_take]; rfl)) ?_; (with_reducible refine (portreeveref11_Has.calls kj23 _ _ t767 6 t776 _ ?side1 ?side2 A31.out).mono ?_); (case side1 => repeat (first | exact (Kd.R_reads' HO_7.out).2.2 | (with_reducible refine Kd.C_alloc ?_ _) | (with_reducible refine Kd.C_drewN ?_ _) | (with_reducible refine Kd.C_drew ?_))); (case side2 => exact (Kd.R_reads' HO_7.out).2.1); rintro e w' ⟨rfl, ⟨nd, rfl⟩⟩; refine ⟨_, rfl, ?_⟩))
              (try simp only [Act.put, List.setIfInBounds_toArray, List.set_cons_zero, List.set_cons_succ])
              go_cut [10] (fun v10 wc => ∃ (kq : Nat) (x10_31 : Int), v10 = .int .i64 x10_31 ∧ Aside0 (portreevelaw12_AutoIds.j2 kq t761 x9_7 x10_31 a0_0 a0_1 a0_2 a0_3 t763 t764 t765 t766 = some r) ∧ Aside0 (kq ≤ kj23) ∧ Aside0 (wc.heap[gb760]? = some (.cells #[.int .i64 a0_0, .int .i64 a0_1, .int .i64 a0_2, .int .u8 a0_3] 23 (0, 0))) ∧ Aside0 (wc.heap[gb771]? = some (.cells #[.int .i64 t763, .int .i64 t764, .int .i64 t765, .int .u8 t766] 23 (0, 0))) ∧ Aside0 (Below w.heap.size w wc))
              case first =>
                have H := HC32.out
                clear HC32
                by_cases c33 : t776 = true
                · subst c33
                  have H1 : (portreevelaw12_AutoIds.j2 kj23 t761 x9_7 0 a0_0 a0_1 a0_2 a0_3 t763 t764 t765 t766) = some r := by rw [if_pos rfl] at H; exact H
                  clear H
                  have H := H1
                  clear H1
                  have H' := Aside0.mk H
                  clear H
                  go_wp2
                  go_meet
                  case rel => exact ⟨_, (0), (by first | rfl | (simp; done) | (simp [*]; done)), H', ⟨by have := HJ7.out; have := HJ23.out; first | omega | exact Nat.le_refl _⟩, ⟨by (with_reducible repeat (first | refine qN ?_ _ | refine qD ?_ | refine qA ?_ _)); exact BK760.out⟩, ⟨by (with_reducible repeat (first | refine qN ?_ _ | refine qD ?_ | refine qA ?_ _)); exact BK771.out⟩, ⟨by repeat (first | (with_reducible first | exact HB.out | apply pA | apply pN | apply pD | refine pS ?_ GE760.out | refine pS ?_ GE771.out) | exact HB.out)⟩⟩
                · replace c33 := Bool.eq_false_iff.mpr c33
                  subst c33
                  have H1 : (portreevelaw12_AutoIds.j2 kj23 t761 x9_7 x10_23 a0_0 a0_1 a0_2 a0_3 t763 t764 t765 t766) = some r := by rw [if_neg (show ¬ (false = true) by decide)] at H; exact H
                  clear H
                  have H := H1
                  clear H1
                  have H' := Aside0.mk H
                  clear H
                  go_wp2
                  go_meet
                  case rel => exact ⟨_, (x10_23), (by first | rfl | (simp; done) | (simp [*]; done)), H', ⟨by have := HJ7.out; have := HJ23.out; first | omega | exact Nat.le_refl _⟩, ⟨by (with_reducible repeat (first | refine qN ?_ _ | refine qD ?_ | refine qA ?_ _)); exact BK760.out⟩, ⟨by (with_reducible repeat (first | refine qN ?_ _ | refine qD ?_ | refine qA ?_ _)); exact BK771.out⟩, ⟨by repeat (first | (with_reducible first | exact HB.out | apply pA | apply pN | apply pD | refine pS ?_ GE760.out | refine pS ?_ GE771.out) | exact HB.out)⟩⟩
              case rest =>
                clear HC32
                try clear c1
                try clear c2
                try clear p2
                try clear c3
                try clear c5
                try clear c6
                try clear c7
                try clear c7b0
                try clear c7b1
                try clear c9
                try clear c10
                try clear c13
                try clear c16
                try clear c19
                try clear c20
                try clear c25
                try clear c28
                try clear c30
                try clear c33
                try clear hcz11_0
                try clear hcz11_1
                try clear hcz11_2
                try clear hcz11_3
                try clear hcz13_0
                try clear hcz13_1
                try clear hcz13_2
                try clear hcz13_3
                try clear hcz17_0
                try clear hcz17_1
                try clear hcz17_2
                try clear hcz17_3
                try clear hcz26_0
                try clear hcz26_1
                try clear hcz26_2
                try clear hcz26_3
                try clear hfz11_0
                try clear hfz11_1
                try clear hfz11_2
                try clear hfz11_3
                try clear hfz13_0
                try clear hfz13_1
                try clear hfz13_2
                try clear hfz13_3
                try clear hfz17_0
                try clear hfz17_1
                try clear hfz17_2
                try clear hfz17_3
                try clear hfz26_0
                try clear hfz26_1
                try clear hfz26_2
                try clear hfz26_3
                try clear p2
                obtain ⟨kq, x10_31, rfl, HA, HJ31, BK760, BK771, HB⟩ := hcut
                cases kq with
                | zero => exact absurd HA.out (by simp [portreevelaw12_AutoIds.j2])
                | succ kj31 =>
                  have H := HA.out
                  clear HA
                  simp only [portreevelaw12_AutoIds.j2] at H
                  by_cases c34 : x9_7 = true
                  · subst c34
                    have H1 : (if t761 = true then (if t766 = ((a0_3 + 1) % 256) then (if t765 = 3 then (some (t764 == (mx (wrap64 (x10_31 - 1)) 0))) else (some false)) else (some false)) else (some false)) = some r := by rw [if_pos rfl] at H; exact H
                    clear H
                    have H := H1
                    clear H1
                    by_cases c35 : t761 = true
                    · subst c35
                      have H1 : (if t766 = ((a0_3 + 1) % 256) then (if t765 = 3 then (some (t764 == (mx (wrap64 (x10_31 - 1)) 0))) else (some false)) else (some false)) = some r := by rw [if_pos rfl] at H; exact H
                      clear H
                      have H := H1
                      clear H1
                      by_cases c36 : t766 = ((a0_3 + 1) % 256)
                      · rw [if_pos c36] at H
                        have c36b0 : (t766 == ((a0_3 + 1) % 256)) = true := beq_iff_eq.mpr c36
                        have c36b1 : (t766 != ((a0_3 + 1) % 256)) = false := bne_eq_false_iff_eq.mpr c36
                        clear c36
                        by_cases c37 : t765 = 3
                        · rw [if_pos c37] at H
                          have c37b0 : (t765 == 3) = true := beq_iff_eq.mpr c37
                          have c37b1 : (t765 != 3) = false := bne_eq_false_iff_eq.mpr c37
                          clear c37
                          obtain ⟨ji38, hji38⟩ : ∃ j_ : Int, (mx (wrap64 (x10_31 - 1)) 0) = j_ := ⟨_, rfl⟩
                          replace H : (some (t764 == (ji38))) = some r := by first | (rw [hji38] at H; exact H) | (simp only [hji38] at H ⊢; exact H)
                          have hji38_ : (if (wrap64 (x10_31 - 1)) < 0 then 0 else (wrap64 (x10_31 - 1))) = ji38 := hji38
                          clear hlaw_
                          obtain rfl := Option.some.inj H
                          have hnb39 := NB771_760.out
                          have hnc39 := NB760_771.out
                          have hcz40_0 : wc.cell? ⟨gb771, 0, none⟩ = some (.int .i64 t763) := (blk_cell BK771.out 0).trans rfl
                          have hcz40_1 : wc.cell? ⟨gb771, 1, none⟩ = some (.int .i64 t764) := (blk_cell BK771.out 1).trans rfl
                          have hcz40_2 : wc.cell? ⟨gb771, 2, none⟩ = some (.int .i64 t765) := (blk_cell BK771.out 2).trans rfl
                          have hcz40_3 : wc.cell? ⟨gb771, 3, none⟩ = some (.int .u8 t766) := (blk_cell BK771.out 3).trans rfl
                          have hfz40_0 := blk_frozen BK771.out 0
                          have hfz40_1 := blk_frozen BK771.out 1
                          have hfz40_2 := blk_frozen BK771.out 2
                          have hfz40_3 := blk_frozen BK771.out 3
                          have hcz41_0 : wc.cell? ⟨gb760, 0, none⟩ = some (.int .i64 a0_0) := (blk_cell BK760.out 0).trans rfl
                          have hcz41_1 : wc.cell? ⟨gb760, 1, none⟩ = some (.int .i64 a0_1) := (blk_cell BK760.out 1).trans rfl
                          have hcz41_2 : wc.cell? ⟨gb760, 2, none⟩ = some (.int .i64 a0_2) := (blk_cell BK760.out 2).trans rfl
                          have hcz41_3 : wc.cell? ⟨gb760, 3, none⟩ = some (.int .u8 a0_3) := (blk_cell BK760.out 3).trans rfl
                          have hfz41_0 := blk_frozen BK760.out 0
                          have hfz41_1 := blk_frozen BK760.out 1
                          have hfz41_2 := blk_frozen BK760.out 2
                          have hfz41_3 := blk_frozen BK760.out 3
                          go_wp2
                          go_ret
                          exact ⟨by first | rfl | (simp [errW_none, errW_some] <;> rfl) | (simp only [← hji38]; first | rfl | (simp [errW_none, errW_some] <;> rfl)) | (simp [*, errW_none, errW_some] <;> rfl), by repeat (first | (with_reducible first | exact HB.out | apply pA | apply pN | apply pD | refine pS ?_ GE760.out | refine pS ?_ GE771.out) | exact HB.out)⟩
                        · rw [if_neg c37] at H
                          have c37b0 : (t765 == 3) = false := beq_eq_false_iff_ne.mpr c37
                          have c37b1 : (t765 != 3) = true := bne_iff_ne.mpr c37
                          exact absurd ((Option.some.inj H).trans hlaw_.out) (by decide)
                      · rw [if_neg c36] at H
                        have c36b0 : (t766 == ((a0_3 + 1) % 256)) = false := beq_eq_false_iff_ne.mpr c36
                        have c36b1 : (t766 != ((a0_3 + 1) % 256)) = true := bne_iff_ne.mpr c36
                        exact absurd ((Option.some.inj H).trans hlaw_.out) (by decide)
                    · replace c35 := Bool.eq_false_iff.mpr c35
                      subst c35
                      have H1 : (some false) = some r := by rw [if_neg (show ¬ (false = true) by decide)] at H; exact H
                      clear H
                      have H := H1
                      clear H1
                      exact absurd ((Option.some.inj H).trans hlaw_.out) (by decide)
                  · replace c34 := Bool.eq_false_iff.mpr c34
                    subst c34
                    have H1 : (if t761 = true then (if t766 = a0_3 then (some (t764 == x10_31)) else (some false)) else (some false)) = some r := by rw [if_neg (show ¬ (false = true) by decide)] at H; exact H
                    clear H
                    have H := H1
                    clear H1
                    by_cases c42 : t761 = true
                    · subst c42
                      have H1 : (if t766 = a0_3 then (some (t764 == x10_31)) else (some false)) = some r := by rw [if_pos rfl] at H; exact H
                      clear H
                      have H := H1
                      clear H1
                      by_cases c43 : t766 = a0_3
                      · rw [if_pos c43] at H
                        have c43b0 : (t766 == a0_3) = true := beq_iff_eq.mpr c43
                        have c43b1 : (t766 != a0_3) = false := bne_eq_false_iff_eq.mpr c43
                        clear c43
                        clear hlaw_
                        obtain rfl := Option.some.inj H
                        have hnb44 := NB771_760.out
                        have hnc44 := NB760_771.out
                        have hcz45_0 : wc.cell? ⟨gb771, 0, none⟩ = some (.int .i64 t763) := (blk_cell BK771.out 0).trans rfl
                        have hcz45_1 : wc.cell? ⟨gb771, 1, none⟩ = some (.int .i64 t764) := (blk_cell BK771.out 1).trans rfl
                        have hcz45_2 : wc.cell? ⟨gb771, 2, none⟩ = some (.int .i64 t765) := (blk_cell BK771.out 2).trans rfl
                        have hcz45_3 : wc.cell? ⟨gb771, 3, none⟩ = some (.int .u8 t766) := (blk_cell BK771.out 3).trans rfl
                        have hfz45_0 := blk_frozen BK771.out 0
                        have hfz45_1 := blk_frozen BK771.out 1
                        have hfz45_2 := blk_frozen BK771.out 2
                        have hfz45_3 := blk_frozen BK771.out 3
                        have hcz46_0 : wc.cell? ⟨gb760, 0, none⟩ = some (.int .i64 a0_0) := (blk_cell BK760.out 0).trans rfl
                        have hcz46_1 : wc.cell? ⟨gb760, 1, none⟩ = some (.int .i64 a0_1) := (blk_cell BK760.out 1).trans rfl
                        have hcz46_2 : wc.cell? ⟨gb760, 2, none⟩ = some (.int .i64 a0_2) := (blk_cell BK760.out 2).trans rfl
                        have hcz46_3 : wc.cell? ⟨gb760, 3, none⟩ = some (.int .u8 a0_3) := (blk_cell BK760.out 3).trans rfl
                        have hfz46_0 := blk_frozen BK760.out 0
                        have hfz46_1 := blk_frozen BK760.out 1
                        have hfz46_2 := blk_frozen BK760.out 2
                        have hfz46_3 := blk_frozen BK760.out 3
                        go_wp2
                        go_ret
                        exact ⟨by first | rfl | (simp [errW_none, errW_some] <;> rfl) | (simp [*, errW_none, errW_some] <;> rfl), by repeat (first | (with_reducible first | exact HB.out | apply pA | apply pN | apply pD | refine pS ?_ GE760.out | refine pS ?_ GE771.out) | exact HB.out)⟩
                      · rw [if_neg c43] at H
                        have c43b0 : (t766 == a0_3) = false := beq_eq_false_iff_ne.mpr c43
                        have c43b1 : (t766 != a0_3) = true := bne_iff_ne.mpr c43
                        exact absurd ((Option.some.inj H).trans hlaw_.out) (by decide)
                    · replace c42 := Bool.eq_false_iff.mpr c42
                      subst c42
                      have H1 : (some false) = some r := by rw [if_neg (show ¬ (false = true) by decide)] at H; exact H
                      clear H
                      have H := H1
                      clear H1
                      exact absurd ((Option.some.inj H).trans hlaw_.out) (by decide)
    · rw [if_neg c7] at H
      have c7b0 : (t770 == 0) = false := beq_eq_false_iff_ne.mpr c7
      have c7b1 : (t770 != 0) = true := bne_iff_ne.mpr c7
      by_cases c47 : t761 = true
      · subst c47
        have H1 : (if (t763 == a0_0 && (t764 == a0_1 && (t765 == a0_2 && (t766 == a0_3)))) = true then (some ((t767.length : Int) == 0)) else (some false)) = some r := by rw [if_pos rfl] at H; exact H
        clear H
        have H := H1
        clear H1
        by_cases c48 : (t763 == a0_0 && (t764 == a0_1 && (t765 == a0_2 && (t766 == a0_3)))) = true
        · rw [if_pos c48] at H
          have c48b0 : (t763 == a0_0 && (t764 == a0_1 && (t765 == a0_2 && (t766 == a0_3)))) = true := c48
          (try (have c48b1 : decide (t763 = a0_0 && (t764 == a0_1 && (t765 == a0_2 && (t766 == a0_3)))) = true := by simpa using c48))
          (try (have c48b2 : (t763 == a0_0 && (t764 == a0_1 && (t765 == a0_2 && (t766 == a0_3)))) = true := by simpa using c48))
          clear c48
          clear hlaw_
          obtain rfl := Option.some.inj H
          go_enter Tryd.func6, Tryd.ntmps6
          go_wp2_with (first | ((with_reducible refine gate_dst (N := 2) rfl ?_); (try (refine gate_guard (by rfl) ?_; dsimp only)); refine box_event ?hg (N := 2) ?hd (cs := #[.int .i64 a0_0, .int .i64 a0_1, .int .i64 a0_2, .int .u8 a0_3]) (t := 23) ?hr ?_; (case hd => rfl); (case hg => rfl); (case hr => first | (go_simp; done) | (go_simp; rfl)); intro gb760 hg w49 hbox hb; have n0_ := Aside0.mk (below_step (by repeat (first | (with_reducible first | exact HB.out | apply pA | apply pN | apply pD) | exact HB.out)) hb); have n1_ := Aside0.mk (hbox); have n2_ := Aside0.mk ((by rw [hg]; exact (below_size (by repeat (first | (with_reducible first | exact HB.out | apply pA | apply pN | apply pD) | exact HB.out))) : w.heap.size ≤ gb760)); have n3_ := Aside0.mk ((by rw [hg]; exact (below_size (by repeat (first | (with_reducible first | exact HB.out | apply pA | apply pN | apply pD) | exact HB.out))) : w.heap.size ≤ gb760)); clear HB; have HB := n0_; have BK760 := n1_; have GW760 := n2_; have GE760 := n3_; clear n0_ n1_ n2_ n3_; clear hb hbox hg) | ((with_reducible refine gate_callee (f := 9) rfl ?_); refine goesL_ (some 11) rfl rfl Tryd.func9 (by kernel_rfl) rfl #[] rfl (by (try simp only [List.map_toArray, List.map_cons, List.map_nil]); first | done | rfl | (simp only [List.length_drop, List.length_take]; rfl)) ?_; (with_reducible refine (portreevelaw12_shown.calls k  true _ ?side1 A3.out).mono ?_); (case side1 => exact (HGL.out.below (by repeat (first | (with_reducible first | exact HB.out | apply pA | apply pN | apply pD | refine pS ?_ GE760.out) | exact HB.out)))); rintro e w50 ⟨rfl, hb⟩; refine ⟨_, rfl, ?_⟩; have n0_ := Aside0.mk (blk_below (g := gb760) (o := .cells #[.int .i64 a0_0, .int .i64 a0_1, .int .i64 a0_2, .int .u8 a0_3] 23 (0, 0)) (by (with_reducible repeat (first | refine qN ?_ _ | refine qD ?_ | refine qA ?_ _)); exact BK760.out) hb); have n1_ := Aside0.mk (below_step (by repeat (first | (with_reducible first | exact HB.out | apply pA | apply pN | apply pD | refine pS ?_ GE760.out) | exact HB.out)) hb); clear BK760; clear HB; have BK760 := n0_; have HB := n1_; clear n0_ n1_; (try clear hb); (try clear hb2); (try clear hk); (try clear hi); have hcz51_0 : w50.cell? ⟨gb760, 0, none⟩ = some (.int .i64 a0_0) := (blk_cell BK760.out 0).trans rfl; have hcz51_1 : w50.cell? ⟨gb760, 1, none⟩ = some (.int .i64 a0_1) := (blk_cell BK760.out 1).trans rfl; have hcz51_2 : w50.cell? ⟨gb760, 2, none⟩ = some (.int .i64 a0_2) := (blk_cell BK760.out 2).trans rfl; have hcz51_3 : w50.cell? ⟨gb760, 3, none⟩ = some (.int .u8 a0_3) := (blk_cell BK760.out 3).trans rfl; have hfz51_0 := blk_frozen BK760.out 0; have hfz51_1 := blk_frozen BK760.out 1; have hfz51_2 := blk_frozen BK760.out 2; have hfz51_3 := blk_frozen BK760.out 3) | ((with_reducible refine gate_callee (f := 10) rfl ?_); refine goesL_ (some 13) rfl rfl Tryd.func10 (by kernel_rfl) rfl #[.agg #[.int .i64 a0_0, .int .i64 a0_1, .int .i64 a0_2, .int .u8 a0_3]] rfl (by (try simp only [List.map_toArray, List.map_cons, List.map_nil]); first | done | rfl | (simp only [List.length_drop, List.length_take]; rfl)) ?_; (with_reducible refine (portreeveref12_Right.calls k a0_0 a0_1 a0_2 a0_3 true _ A4.out).mono ?_); rintro e w52 ⟨rfl, hb⟩; refine ⟨_, rfl, ?_⟩; have n0_ := Aside0.mk (blk_below (g := gb760) (o := .cells #[.int .i64 a0_0, .int .i64 a0_1, .int .i64 a0_2, .int .u8 a0_3] 23 (0, 0)) (by (with_reducible repeat (first | refine qN ?_ _ | refine qD ?_ | refine qA ?_ _)); exact BK760.out) hb); have n1_ := Aside0.mk (below_step (by repeat (first | (with_reducible first | exact HB.out | apply pA | apply pN | apply pD | refine pS ?_ GE760.out) | exact HB.out)) hb); clear BK760; clear HB; have BK760 := n0_; have HB := n1_; clear n0_ n1_; (try clear hb); (try clear hb2); (try clear hk); (try clear hi); have hcz53_0 : w52.cell? ⟨gb760, 0, none⟩ = some (.int .i64 a0_0) := (blk_cell BK760.out 0).trans rfl; have hcz53_1 : w52.cell? ⟨gb760, 1, none⟩ = some (.int .i64 a0_1) := (blk_cell BK760.out 1).trans rfl; have hcz53_2 : w52.cell? ⟨gb760, 2, none⟩ = some (.int .i64 a0_2) := (blk_cell BK760.out 2).trans rfl; have hcz53_3 : w52.cell? ⟨gb760, 3, none⟩ = some (.int .u8 a0_3) := (blk_cell BK760.out 3).trans rfl; have hfz53_0 := blk_frozen BK760.out 0; have hfz53_1 := blk_frozen BK760.out 1; have hfz53_2 := blk_frozen BK760.out 2; have hfz53_3 := blk_frozen BK760.out 3) | ((with_reducible refine gate_callee (f := 13) rfl ?_); refine goesL_ (some 19) rfl rfl Tryd.func13 (by kernel_rfl) rfl #[.agg #[.int .i64 a0_0, .int .i64 a0_1, .int .i64 a0_2, .int .u8 a0_3], .int .i64 a1] rfl (by (try simp only [List.map_toArray, List.map_cons, List.map_nil]); first | done | rfl | (simp only [List.length_drop, List.length_take]; rfl)) ?_; (with_reducible refine (auto_Do.calls a0_0 a0_1 a0_2 a0_3 a1 t763 t764 t765 t766 t767 t770 _ ?side1 A6.out).mono ?_); (case side1 => exact (HGL.out.below (by repeat (first | (with_reducible first | exact HB.out | apply pA | apply pN | apply pD | refine pS ?_ GE760.out) | exact HB.out)))); rintro e w54 ⟨v768, rfl, ho0, hb⟩; refine ⟨_, rfl, ?_⟩; have n0_ := Aside0.mk (Kd.R_lower ho0 (below_size (by repeat (first | (with_reducible first | exact HB.out | apply pA | apply pN | apply pD | refine pS ?_ GE760.out) | exact HB.out)))); have n1_ := Aside0.mk (blk_below (g := gb760) (o := .cells #[.int .i64 a0_0, .int .i64 a0_1, .int .i64 a0_2, .int .u8 a0_3] 23 (0, 0)) (by (with_reducible repeat (first | refine qN ?_ _ | refine qD ?_ | refine qA ?_ _)); exact BK760.out) hb); have n2_ := Aside0.mk (below_step (by repeat (first | (with_reducible first | exact HB.out | apply pA | apply pN | apply pD | refine pS ?_ GE760.out) | exact HB.out)) hb); clear BK760; clear HB; have HO769 := n0_; have BK760 := n1_; have HB := n2_; clear n0_ n1_ n2_; (try clear hb); (try clear hb2); (try clear hk); (try clear hi); (try clear ho0)) | ((with_reducible refine gate_dst (N := 6) rfl ?_); (try (refine gate_guard (by rfl) ?_; dsimp only)); refine box_event ?hg (N := 6) ?hd (cs := #[.int .i64 0, .int .i64 0, .int .i64 0, .int .u8 0]) (t := 23) ?hr ?_; (case hd => rfl); (case hg => rfl); (case hr => first | (go_simp; done) | (go_simp; rfl)); intro gb771 hg w55 hbox hb; have n0_ := Aside0.mk (Kd.R_below (by (with_reducible repeat (first | apply Kd.R_alloc | apply Kd.R_drewN | apply Kd.R_drew)); exact HO769.out) hb); have n1_ := Aside0.mk (blk_below (g := gb760) (o := .cells #[.int .i64 a0_0, .int .i64 a0_1, .int .i64 a0_2, .int .u8 a0_3] 23 (0, 0)) (by (with_reducible repeat (first | refine qN ?_ _ | refine qD ?_ | refine qA ?_ _)); exact BK760.out) hb); have n2_ := Aside0.mk (below_step (by repeat (first | (with_reducible first | exact HB.out | apply pA | apply pN | apply pD | refine pS ?_ GE760.out) | exact HB.out)) hb); have n3_ := Aside0.mk (hbox); have n4_ := Aside0.mk ((by rw [hg]; exact (below_size (by repeat (first | (with_reducible first | exact HB.out | apply pA | apply pN | apply pD | refine pS ?_ GE760.out) | exact HB.out))) : w.heap.size ≤ gb771)); have n5_ := Aside0.mk ((by rw [hg]; exact (below_size (by repeat (first | (with_reducible first | exact HB.out | apply pA | apply pN | apply pD | refine pS ?_ GE760.out) | exact HB.out))) : w.heap.size ≤ gb771)); have n6_ := Aside0.mk ((by rw [hg]; exact Nat.ne_of_lt (blk_lt (g := gb760) (o := .cells #[.int .i64 a0_0, .int .i64 a0_1, .int .i64 a0_2, .int .u8 a0_3] 23 (0, 0)) (by (with_reducible repeat (first | refine qN ?_ _ | refine qD ?_ | refine qA ?_ _)); exact BK760.out)) : gb760 ≠ gb771)); have n7_ := Aside0.mk ((by rw [hg]; exact Nat.ne_of_gt (blk_lt (g := gb760) (o := .cells #[.int .i64 a0_0, .int .i64 a0_1, .int .i64 a0_2, .int .u8 a0_3] 23 (0, 0)) (by (with_reducible repeat (first | refine qN ?_ _ | refine qD ?_ | refine qA ?_ _)); exact BK760.out)) : gb771 ≠ gb760)); clear HO769; clear BK760; clear HB; have HO769 := n0_; have BK760 := n1_; have HB := n2_; have BK771 := n3_; have GW771 := n4_; have GE771 := n5_; have NB760_771 := n6_; have NB771_760 := n7_; clear n0_ n1_ n2_ n3_ n4_ n5_ n6_ n7_; clear hb hbox hg; have hnb56 := NB771_760.out; have hnc56 := NB760_771.out; have hcz57_0 : w55.cell? ⟨gb771, 0, none⟩ = some (.int .i64 0) := (blk_cell BK771.out 0).trans rfl; have hcz57_1 : w55.cell? ⟨gb771, 1, none⟩ = some (.int .i64 0) := (blk_cell BK771.out 1).trans rfl; have hcz57_2 : w55.cell? ⟨gb771, 2, none⟩ = some (.int .i64 0) := (blk_cell BK771.out 2).trans rfl; have hcz57_3 : w55.cell? ⟨gb771, 3, none⟩ = some (.int .u8 0) := (blk_cell BK771.out 3).trans rfl; have hfz57_0 := blk_frozen BK771.out 0; have hfz57_1 := blk_frozen BK771.out 1; have hfz57_2 := blk_frozen BK771.out 2; have hfz57_3 := blk_frozen BK771.out 3; have hcz58_0 : w55.cell? ⟨gb760, 0, none⟩ = some (.int .i64 a0_0) := (blk_cell BK760.out 0).trans rfl; have hcz58_1 : w55.cell? ⟨gb760, 1, none⟩ = some (.int .i64 a0_1) := (blk_cell BK760.out 1).trans rfl; have hcz58_2 : w55.cell? ⟨gb760, 2, none⟩ = some (.int .i64 a0_2) := (blk_cell BK760.out 2).trans rfl; have hcz58_3 : w55.cell? ⟨gb760, 3, none⟩ = some (.int .u8 a0_3) := (blk_cell BK760.out 3).trans rfl; have hfz58_0 := blk_frozen BK760.out 0; have hfz58_1 := blk_frozen BK760.out 1; have hfz58_2 := blk_frozen BK760.out 2; have hfz58_3 := blk_frozen BK760.out 3; obtain ⟨Ao59, co59, eo59⟩ := Kd.R_slice HO769.out; subst eo59))
          go_ret
          exact ⟨by first | rfl | (simp [errW_none, errW_some] <;> rfl) | (simp [*, errW_none, errW_some] <;> rfl), by repeat (first | (with_reducible first | exact HB.out | apply pA | apply pN | apply pD | refine pS ?_ GE760.out | refine pS ?_ GE771.out) | exact HB.out)⟩
        · rw [if_neg c48] at H
          have c48b0 : (t763 == a0_0 && (t764 == a0_1 && (t765 == a0_2 && (t766 == a0_3)))) = false := by simpa using c48
          (try (have c48b1 : decide (t763 = a0_0 && (t764 == a0_1 && (t765 == a0_2 && (t766 == a0_3)))) = false := by simpa using c48))
          (try (have c48b2 : (t763 == a0_0 && (t764 == a0_1 && (t765 == a0_2 && (t766 == a0_3)))) = false := by simpa using c48))
          (try (have c48b3 : ¬ (t763 = a0_0 && (t764 == a0_1 && (t765 == a0_2 && (t766 == a0_3)))) := by simpa using c48))
          clear c48
          exact absurd ((Option.some.inj H).trans hlaw_.out) (by decide)
      · replace c47 := Bool.eq_false_iff.mpr c47
        subst c47
        have H1 : (some false) = some r := by rw [if_neg (show ¬ (false = true) by decide)] at H; exact H
        clear H
        have H := H1
        clear H1
        exact absurd ((Option.some.inj H).trans hlaw_.out) (by decide)
  · replace c5 := Bool.eq_false_iff.mpr c5
    subst c5
    have H1 : (some t761) = some r := by rw [if_neg (show ¬ (false = true) by decide)] at H; exact H
    clear H
    have H := H1
    clear H1
    clear hlaw_
    obtain rfl := Option.some.inj H
    go_enter Tryd.func6, Tryd.ntmps6
    go_wp2_with (first | ((with_reducible refine gate_dst (N := 2) rfl ?_); (try (refine gate_guard (by rfl) ?_; dsimp only)); refine box_event ?hg (N := 2) ?hd (cs := #[.int .i64 a0_0, .int .i64 a0_1, .int .i64 a0_2, .int .u8 a0_3]) (t := 23) ?hr ?_; (case hd => rfl); (case hg => rfl); (case hr => first | (go_simp; done) | (go_simp; rfl)); intro gb760 hg w60 hbox hb; have n0_ := Aside0.mk (below_step (by repeat (first | (with_reducible first | exact HB.out | apply pA | apply pN | apply pD) | exact HB.out)) hb); have n1_ := Aside0.mk (hbox); have n2_ := Aside0.mk ((by rw [hg]; exact (below_size (by repeat (first | (with_reducible first | exact HB.out | apply pA | apply pN | apply pD) | exact HB.out))) : w.heap.size ≤ gb760)); have n3_ := Aside0.mk ((by rw [hg]; exact (below_size (by repeat (first | (with_reducible first | exact HB.out | apply pA | apply pN | apply pD) | exact HB.out))) : w.heap.size ≤ gb760)); clear HB; have HB := n0_; have BK760 := n1_; have GW760 := n2_; have GE760 := n3_; clear n0_ n1_ n2_ n3_; clear hb hbox hg) | ((with_reducible refine gate_callee (f := 9) rfl ?_); refine goesL_ (some 11) rfl rfl Tryd.func9 (by kernel_rfl) rfl #[] rfl (by (try simp only [List.map_toArray, List.map_cons, List.map_nil]); first | done | rfl | (simp only [List.length_drop, List.length_take]; rfl)) ?_; (with_reducible refine (portreevelaw12_shown.calls k  t761 _ ?side1 A3.out).mono ?_); (case side1 => exact (HGL.out.below (by repeat (first | (with_reducible first | exact HB.out | apply pA | apply pN | apply pD | refine pS ?_ GE760.out) | exact HB.out)))); rintro e w61 ⟨rfl, hb⟩; refine ⟨_, rfl, ?_⟩; have n0_ := Aside0.mk (blk_below (g := gb760) (o := .cells #[.int .i64 a0_0, .int .i64 a0_1, .int .i64 a0_2, .int .u8 a0_3] 23 (0, 0)) (by (with_reducible repeat (first | refine qN ?_ _ | refine qD ?_ | refine qA ?_ _)); exact BK760.out) hb); have n1_ := Aside0.mk (below_step (by repeat (first | (with_reducible first | exact HB.out | apply pA | apply pN | apply pD | refine pS ?_ GE760.out) | exact HB.out)) hb); clear BK760; clear HB; have BK760 := n0_; have HB := n1_; clear n0_ n1_; (try clear hb); (try clear hb2); (try clear hk); (try clear hi); have hcz62_0 : w61.cell? ⟨gb760, 0, none⟩ = some (.int .i64 a0_0) := (blk_cell BK760.out 0).trans rfl; have hcz62_1 : w61.cell? ⟨gb760, 1, none⟩ = some (.int .i64 a0_1) := (blk_cell BK760.out 1).trans rfl; have hcz62_2 : w61.cell? ⟨gb760, 2, none⟩ = some (.int .i64 a0_2) := (blk_cell BK760.out 2).trans rfl; have hcz62_3 : w61.cell? ⟨gb760, 3, none⟩ = some (.int .u8 a0_3) := (blk_cell BK760.out 3).trans rfl; have hfz62_0 := blk_frozen BK760.out 0; have hfz62_1 := blk_frozen BK760.out 1; have hfz62_2 := blk_frozen BK760.out 2; have hfz62_3 := blk_frozen BK760.out 3) | ((with_reducible refine gate_callee (f := 10) rfl ?_); refine goesL_ (some 13) rfl rfl Tryd.func10 (by kernel_rfl) rfl #[.agg #[.int .i64 a0_0, .int .i64 a0_1, .int .i64 a0_2, .int .u8 a0_3]] rfl (by (try simp only [List.map_toArray, List.map_cons, List.map_nil]); first | done | rfl | (simp only [List.length_drop, List.length_take]; rfl)) ?_; (with_reducible refine (portreeveref12_Right.calls k a0_0 a0_1 a0_2 a0_3 false _ A4.out).mono ?_); rintro e w63 ⟨rfl, hb⟩; refine ⟨_, rfl, ?_⟩; have n0_ := Aside0.mk (blk_below (g := gb760) (o := .cells #[.int .i64 a0_0, .int .i64 a0_1, .int .i64 a0_2, .int .u8 a0_3] 23 (0, 0)) (by (with_reducible repeat (first | refine qN ?_ _ | refine qD ?_ | refine qA ?_ _)); exact BK760.out) hb); have n1_ := Aside0.mk (below_step (by repeat (first | (with_reducible first | exact HB.out | apply pA | apply pN | apply pD | refine pS ?_ GE760.out) | exact HB.out)) hb); clear BK760; clear HB; have BK760 := n0_; have HB := n1_; clear n0_ n1_; (try clear hb); (try clear hb2); (try clear hk); (try clear hi)))
    go_ret
    exact ⟨by first | rfl | (simp [errW_none, errW_some] <;> rfl) | (simp [*, errW_none, errW_some] <;> rfl), by repeat (first | (with_reducible first | exact HB.out | apply pA | apply pN | apply pD | refine pS ?_ GE760.out) | exact HB.out)⟩

end Go.Proofs.YtoenogjedmnnlaaDoor.Q

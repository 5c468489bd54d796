-- written by this session's own program (wip/tools/myprint.py), over the kit's print
import Derived.Test.YtoenogjedmnnlaaDoorQx0
import Derived.Test.YtoenogjedmnnlaaDoorQx1
import Derived.Test.YtoenogjedmnnlaaDoorQx2
import Derived.Test.YtoenogjedmnnlaaDoorQx4
import Derived.Test.YtoenogjedmnnlaaDoorQx5
namespace Go.Proofs.YtoenogjedmnnlaaDoor.Q
open Go.RowKit Go.Proofs.YtoenogjedmnnlaaDoorW.PrintWords Go.Proofs.YtoenogjedmnnlaaDoorW.PrintLast Go.Proofs.YtoenogjedmnnlaaDoorW.PrintMore
open Go.Proofs.YtoenogjedmnnlaaDoorV Go.Proofs.YtoenogjedmnnlaaDoorG
attribute [local go_sem] max2_int min2_int max_two min_two max_three min_three max_four min_four   -- for this text's walks alone
set_option linter.unusedVariables false
set_option linter.unusedSimpArgs false

attribute [local go_sem high] eqA23
/-! ### portreevelaw12_shown_g: function 9 -/
def portreevelaw12_shown_g.f (k : Nat)  : Option (Bool) := (auto_Do.f 1 0 0 0 0).bind fun bt137 => ((auto_Bound.f).bind fun t146 => ((auto_Quiet.f k bt137.1 bt137.2.1 bt137.2.2.1 bt137.2.2.2.1 t146).bind fun bt147 => ((auto_Tick.f bt147.1 bt147.2.1 bt147.2.2.1 bt147.2.2.2).bind fun bt152 => (if bt137.2.2.2.2.2 = 0 then (if (bt137.2.2.2.2.1.length : Int) = 2 then (if (bt137.1 == 6 && (bt137.2.1 == 4 && (bt137.2.2.1 == 3 && (bt137.2.2.2.1 == 1)))) = true then ((auto_Right.f k bt137.1 bt137.2.1 bt137.2.2.1 bt137.2.2.2.1).bind fun t160 => (if t160 = true then ((auto_Bound.f).bind fun t161 => (if t161 = 18 then (if bt147.1 = 3 then (if bt147.2.2.2 = 5 then (if (bt152.1 == bt147.1 && (bt152.2.1 == bt147.2.1 && (bt152.2.2.1 == bt147.2.2.1 && (bt152.2.2.2.1 == bt147.2.2.2)))) = true then (some ((bt152.2.2.2.2.length : Int) == 0)) else (some false)) else (some false)) else (some false)) else (some false))) else (some false))) else (some false)) else (some false)) else (some false)))))
theorem portreevelaw12_shown_g.mono : ∀ k, LeO (portreevelaw12_shown_g.f k ) (portreevelaw12_shown_g.f (k + 1) ) := by
  intro  k
  unfold portreevelaw12_shown_g.f
  repeat' first
      | (with_reducible exact auto_Quiet.mono _ _ _ _ _ _)
      | (with_reducible exact auto_Right.mono _ _ _ _ _)
      | (with_reducible exact LeO.refl _)
      | (with_reducible exact LeO.none _)
      | (with_reducible refine LeO.ite ?_ ?_)
      | (with_reducible refine LeO.bind ?_ (fun _ => ?_))
      | exact auto_Quiet.mono _ _ _ _ _ _
      | exact auto_Right.mono _ _ _ _ _
      | exact LeO.none _
      | refine LeO.ite ?_ ?_
      | refine LeO.bind ?_ (fun _ => ?_)
set_option maxHeartbeats 8000000 in
set_option maxRecDepth 100000 in
theorem portreevelaw12_shown_g.calls (k : Nat)  (r : Bool) (w : World) (hlaw_ : Aside0 (r = true)) (hgl : Gl w) (h : portreevelaw12_shown_g.f k  = some r) :
    Calls Tryd.prog 9 #[] w fun e w' => e = .returned (.bool r) ∧ Below w.heap.size w w' := by
  have hu23 := Tryd.underlying23
  have HB := Aside0.mk (Below.refl w.heap.size w)
  have HGL := Aside0.mk hgl
  clear hgl
  have H : ((auto_Do.f 1 0 0 0 0).bind fun bt137 => ((auto_Bound.f).bind fun t146 => ((auto_Quiet.f k bt137.1 bt137.2.1 bt137.2.2.1 bt137.2.2.2.1 t146).bind fun bt147 => ((auto_Tick.f bt147.1 bt147.2.1 bt147.2.2.1 bt147.2.2.2).bind fun bt152 => (if bt137.2.2.2.2.2 = 0 then (if (bt137.2.2.2.2.1.length : Int) = 2 then (if (bt137.1 == 6 && (bt137.2.1 == 4 && (bt137.2.2.1 == 3 && (bt137.2.2.2.1 == 1)))) = true then ((auto_Right.f k bt137.1 bt137.2.1 bt137.2.2.1 bt137.2.2.2.1).bind fun t160 => (if t160 = true then ((auto_Bound.f).bind fun t161 => (if t161 = 18 then (if bt147.1 = 3 then (if bt147.2.2.2 = 5 then (if (bt152.1 == bt147.1 && (bt152.2.1 == bt147.2.1 && (bt152.2.2.1 == bt147.2.2.1 && (bt152.2.2.2.1 == bt147.2.2.2)))) = true then (some ((bt152.2.2.2.2.length : Int) == 0)) else (some false)) else (some false)) else (some false)) else (some false))) else (some false))) else (some false)) else (some false)) else (some false)))))) = some r := h
  clear h
  replace H := Option.bind_eq_some_iff.mp H
  obtain ⟨⟨t137, t138, t139, t140, t141, t144⟩, A10, H⟩ := H
  replace H : ((auto_Bound.f).bind fun t146 => ((auto_Quiet.f k t137 t138 t139 t140 t146).bind fun bt147 => ((auto_Tick.f bt147.1 bt147.2.1 bt147.2.2.1 bt147.2.2.2).bind fun bt152 => (if t144 = 0 then (if (t141.length : Int) = 2 then (if (t137 == 6 && (t138 == 4 && (t139 == 3 && (t140 == 1)))) = true then ((auto_Right.f k t137 t138 t139 t140).bind fun t160 => (if t160 = true then ((auto_Bound.f).bind fun t161 => (if t161 = 18 then (if bt147.1 = 3 then (if bt147.2.2.2 = 5 then (if (bt152.1 == bt147.1 && (bt152.2.1 == bt147.2.1 && (bt152.2.2.1 == bt147.2.2.1 && (bt152.2.2.2.1 == bt147.2.2.2)))) = true then (some ((bt152.2.2.2.2.length : Int) == 0)) else (some false)) else (some false)) else (some false)) else (some false))) else (some false))) else (some false)) else (some false)) else (some false))))) = some r := H
  have A1 := Aside0.mk A10
  clear A10
  replace H := Option.bind_eq_some_iff.mp H
  obtain ⟨t146, A20, H⟩ := H
  replace H : ((auto_Quiet.f k t137 t138 t139 t140 t146).bind fun bt147 => ((auto_Tick.f bt147.1 bt147.2.1 bt147.2.2.1 bt147.2.2.2).bind fun bt152 => (if t144 = 0 then (if (t141.length : Int) = 2 then (if (t137 == 6 && (t138 == 4 && (t139 == 3 && (t140 == 1)))) = true then ((auto_Right.f k t137 t138 t139 t140).bind fun t160 => (if t160 = true then ((auto_Bound.f).bind fun t161 => (if t161 = 18 then (if bt147.1 = 3 then (if bt147.2.2.2 = 5 then (if (bt152.1 == bt147.1 && (bt152.2.1 == bt147.2.1 && (bt152.2.2.1 == bt147.2.2.1 && (bt152.2.2.2.1 == bt147.2.2.2)))) = true then (some ((bt152.2.2.2.2.length : Int) == 0)) else (some false)) else (some false)) else (some false)) else (some false))) else (some false))) else (some false)) else (some false)) else (some false)))) = some r := H
  have A2 := Aside0.mk A20
  clear A20
  replace H := Option.bind_eq_some_iff.mp H
  obtain ⟨⟨t147, t148, t149, t150⟩, A30, H⟩ := H
  replace H : ((auto_Tick.f t147 t148 t149 t150).bind fun bt152 => (if t144 = 0 then (if (t141.length : Int) = 2 then (if (t137 == 6 && (t138 == 4 && (t139 == 3 && (t140 == 1)))) = true then ((auto_Right.f k t137 t138 t139 t140).bind fun t160 => (if t160 = true then ((auto_Bound.f).bind fun t161 => (if t161 = 18 then (if t147 = 3 then (if t150 = 5 then (if (bt152.1 == t147 && (bt152.2.1 == t148 && (bt152.2.2.1 == t149 && (bt152.2.2.2.1 == t150)))) = true then (some ((bt152.2.2.2.2.length : Int) == 0)) else (some false)) else (some false)) else (some false)) else (some false))) else (some false))) else (some false)) else (some false)) else (some false))) = some r := H
  have A3 := Aside0.mk A30
  clear A30
  replace H := Option.bind_eq_some_iff.mp H
  obtain ⟨⟨t152, t153, t154, t155, t156⟩, A40, H⟩ := H
  replace H : (if t144 = 0 then (if (t141.length : Int) = 2 then (if (t137 == 6 && (t138 == 4 && (t139 == 3 && (t140 == 1)))) = true then ((auto_Right.f k t137 t138 t139 t140).bind fun t160 => (if t160 = true then ((auto_Bound.f).bind fun t161 => (if t161 = 18 then (if t147 = 3 then (if t150 = 5 then (if (t152 == t147 && (t153 == t148 && (t154 == t149 && (t155 == t150)))) = true then (some ((t156.length : Int) == 0)) else (some false)) else (some false)) else (some false)) else (some false))) else (some false))) else (some false)) else (some false)) else (some false)) = some r := H
  have A4 := Aside0.mk A40
  clear A40
  by_cases c5 : t144 = 0
  · rw [if_pos c5] at H
    have c5b0 : (t144 == 0) = true := beq_iff_eq.mpr c5
    have c5b1 : (t144 != 0) = false := bne_eq_false_iff_eq.mpr c5
    clear c5
    by_cases c6 : (t141.length : Int) = 2
    · rw [if_pos c6] at H
      have c6b0 : ((t141.length : Int) == 2) = true := beq_iff_eq.mpr c6
      have c6b1 : ((t141.length : Int) != 2) = false := bne_eq_false_iff_eq.mpr c6
      clear c6
      by_cases c7 : (t137 == 6 && (t138 == 4 && (t139 == 3 && (t140 == 1)))) = true
      · rw [if_pos c7] at H
        have c7b0 : (t137 == 6 && (t138 == 4 && (t139 == 3 && (t140 == 1)))) = true := c7
        (try (have c7b1 : decide (t137 = 6 && (t138 == 4 && (t139 == 3 && (t140 == 1)))) = true := by simpa using c7))
        (try (have c7b2 : (t137 == 6 && (t138 == 4 && (t139 == 3 && (t140 == 1)))) = true := by simpa using c7))
        clear c7
        replace H := Option.bind_eq_some_iff.mp H
        obtain ⟨t160, A80, H⟩ := H
        replace H : (if t160 = true then ((auto_Bound.f).bind fun t161 => (if t161 = 18 then (if t147 = 3 then (if t150 = 5 then (if (t152 == t147 && (t153 == t148 && (t154 == t149 && (t155 == t150)))) = true then (some ((t156.length : Int) == 0)) else (some false)) else (some false)) else (some false)) else (some false))) else (some false)) = some r := H
        have A8 := Aside0.mk A80
        clear A80
        by_cases c9 : t160 = true
        · subst c9
          have H1 : ((auto_Bound.f).bind fun t161 => (if t161 = 18 then (if t147 = 3 then (if t150 = 5 then (if (t152 == t147 && (t153 == t148 && (t154 == t149 && (t155 == t150)))) = true then (some ((t156.length : Int) == 0)) else (some false)) else (some false)) else (some false)) else (some false))) = some r := by rw [if_pos rfl] at H; exact H
          clear H
          have H := H1
          clear H1
          replace H := Option.bind_eq_some_iff.mp H
          obtain ⟨t161, A100, H⟩ := H
          replace H : (if t161 = 18 then (if t147 = 3 then (if t150 = 5 then (if (t152 == t147 && (t153 == t148 && (t154 == t149 && (t155 == t150)))) = true then (some ((t156.length : Int) == 0)) else (some false)) else (some false)) else (some false)) else (some false)) = some r := H
          have A10 := Aside0.mk A100
          clear A100
          by_cases c11 : t161 = 18
          · rw [if_pos c11] at H
            have c11b0 : (t161 == 18) = true := beq_iff_eq.mpr c11
            have c11b1 : (t161 != 18) = false := bne_eq_false_iff_eq.mpr c11
            clear c11
            by_cases c12 : t147 = 3
            · rw [if_pos c12] at H
              have c12b0 : (t147 == 3) = true := beq_iff_eq.mpr c12
              have c12b1 : (t147 != 3) = false := bne_eq_false_iff_eq.mpr c12
              clear c12
              by_cases c13 : t150 = 5
              · rw [if_pos c13] at H
                have c13b0 : (t150 == 5) = true := beq_iff_eq.mpr c13
                have c13b1 : (t150 != 5) = false := bne_eq_false_iff_eq.mpr c13
                clear c13
                by_cases c14 : (t152 == t147 && (t153 == t148 && (t154 == t149 && (t155 == t150)))) = true
                · rw [if_pos c14] at H
                  have c14b0 : (t152 == t147 && (t153 == t148 && (t154 == t149 && (t155 == t150)))) = true := c14
                  (try (have c14b1 : decide (t152 = t147 && (t153 == t148 && (t154 == t149 && (t155 == t150)))) = true := by simpa using c14))
                  (try (have c14b2 : (t152 == t147 && (t153 == t148 && (t154 == t149 && (t155 == t150)))) = true := by simpa using c14))
                  clear c14
                  clear hlaw_
                  obtain rfl := Option.some.inj H
                  go_enter Tryd.func9, Tryd.ntmps9
                  try go_wp2_with (first | ((with_reducible refine gate_callee (f := 13) rfl ?_); refine goesL_ (some 9) rfl rfl Tryd.func13 (by kernel_rfl) rfl #[.agg #[.int .i64 1, .int .i64 0, .int .i64 0, .int .u8 0], .int .i64 0] rfl (by (try simp only [List.map_toArray, List.map_cons, List.map_nil]); first | done | rfl | (simp only [List.length_drop, List.length_take]; rfl)) ?_; (with_reducible refine (auto_Do.calls 1 0 0 0 0 t137 t138 t139 t140 t141 t144 _ ?side1 A1.out).mono ?_); (case side1 => exact (HGL.out.below (by repeat (first | (with_reducible first | exact HB.out | apply pA | apply pN | apply pD) | exact HB.out)))); rintro e w15 ⟨v142, rfl, ho0, hb⟩; refine ⟨_, rfl, ?_⟩; have n0_ := Aside0.mk (Kd.R_lower ho0 (below_size (by repeat (first | (with_reducible first | exact HB.out | apply pA | apply pN | apply pD) | exact HB.out)))); have n1_ := Aside0.mk (below_step (by repeat (first | (with_reducible first | exact HB.out | apply pA | apply pN | apply pD) | exact HB.out)) hb); clear HB; have HO143 := n0_; have HB := n1_; clear n0_ n1_; (try clear hb); (try clear hb2); (try clear hk); (try clear hi); (try clear ho0)) | ((with_reducible refine gate_dst (N := 1) rfl ?_); (try (refine gate_guard (by rfl) ?_; dsimp only)); refine box_event ?hg (N := 1) ?hd (cs := #[.int .i64 0, .int .i64 0, .int .i64 0, .int .u8 0]) (t := 23) ?hr ?_; (case hd => rfl); (case hg => rfl); (case hr => first | (go_simp; done) | (go_simp; rfl)); intro gb145 hg w16 hbox hb; have n0_ := Aside0.mk (Kd.R_below (by (with_reducible repeat (first | apply Kd.R_alloc | apply Kd.R_drewN | apply Kd.R_drew)); exact HO143.out) hb); have n1_ := Aside0.mk (below_step (by repeat (first | (with_reducible first | exact HB.out | apply pA | apply pN | apply pD) | exact HB.out)) hb); have n2_ := Aside0.mk (hbox); have n3_ := Aside0.mk ((by rw [hg]; exact (below_size (by repeat (first | (with_reducible first | exact HB.out | apply pA | apply pN | apply pD) | exact HB.out))) : w.heap.size ≤ gb145)); have n4_ := Aside0.mk ((by rw [hg]; exact (below_size (by repeat (first | (with_reducible first | exact HB.out | apply pA | apply pN | apply pD) | exact HB.out))) : w.heap.size ≤ gb145)); clear HO143; clear HB; have HO143 := n0_; have HB := n1_; have BK145 := n2_; have GW145 := n3_; have GE145 := n4_; clear n0_ n1_ n2_ n3_ n4_; clear hb hbox hg; have hcz17_0 : w16.cell? ⟨gb145, 0, none⟩ = some (.int .i64 0) := (blk_cell BK145.out 0).trans rfl; have hcz17_1 : w16.cell? ⟨gb145, 1, none⟩ = some (.int .i64 0) := (blk_cell BK145.out 1).trans rfl; have hcz17_2 : w16.cell? ⟨gb145, 2, none⟩ = some (.int .i64 0) := (blk_cell BK145.out 2).trans rfl; have hcz17_3 : w16.cell? ⟨gb145, 3, none⟩ = some (.int .u8 0) := (blk_cell BK145.out 3).trans rfl; have hfz17_0 := blk_frozen BK145.out 0; have hfz17_1 := blk_frozen BK145.out 1; have hfz17_2 := blk_frozen BK145.out 2; have hfz17_3 := blk_frozen BK145.out 3))
                  have n0_ : Aside0 (Kd.R (Kd.int .i64) 3 ((((w16.setCell ⟨gb145, 0, none⟩ (.int .i64 t137)).setCell ⟨gb145, 1, none⟩ (.int .i64 t138)).setCell ⟨gb145, 2, none⟩ (.int .i64 t139)).setCell ⟨gb145, 3, none⟩ (.int .u8 t140)) w.heap.size (fun _ => True) v142 t141) := ⟨by (with_reducible repeat (first | apply Kd.R_alloc | apply Kd.R_drewN | apply Kd.R_drew)); exact Kd.R_mono (Kd.R_far (p := ⟨gb145, 3, none⟩) (Kd.R_far (p := ⟨gb145, 2, none⟩) (Kd.R_far (p := ⟨gb145, 1, none⟩) (Kd.R_far (p := ⟨gb145, 0, none⟩) (Kd.R_types HO143.out BK145.out (by decide)) (fun _ hk => hk.2) (.int .i64 t137)) (fun _ hk => hk.2) (.int .i64 t138)) (fun _ hk => hk.2) (.int .i64 t139)) (fun _ hk => hk.2) (.int .u8 t140)) (fun _ hk => trivial)⟩
                  have n1_ : Aside0 (((((w16.setCell ⟨gb145, 0, none⟩ (.int .i64 t137)).setCell ⟨gb145, 1, none⟩ (.int .i64 t138)).setCell ⟨gb145, 2, none⟩ (.int .i64 t139)).setCell ⟨gb145, 3, none⟩ (.int .u8 t140)).heap[gb145]? = some (.cells #[.int .i64 t137, .int .i64 t138, .int .i64 t139, .int .u8 t140] 23 (0, 0))) := ⟨by (with_reducible repeat (first | refine qN ?_ _ | refine qD ?_ | refine qA ?_ _)); refine blk_put (cs := #[.int .i64 t137, .int .i64 t138, .int .i64 t139, .int .u8 0]) ?_ 3 _ rfl; (with_reducible repeat (first | refine qN ?_ _ | refine qD ?_ | refine qA ?_ _)); refine blk_put (cs := #[.int .i64 t137, .int .i64 t138, .int .i64 0, .int .u8 0]) ?_ 2 _ rfl; (with_reducible repeat (first | refine qN ?_ _ | refine qD ?_ | refine qA ?_ _)); refine blk_put (cs := #[.int .i64 t137, .int .i64 0, .int .i64 0, .int .u8 0]) ?_ 1 _ rfl; (with_reducible repeat (first | refine qN ?_ _ | refine qD ?_ | refine qA ?_ _)); refine blk_put (cs := #[.int .i64 0, .int .i64 0, .int .i64 0, .int .u8 0]) ?_ 0 _ rfl; (with_reducible repeat (first | refine qN ?_ _ | refine qD ?_ | refine qA ?_ _)); exact BK145.out⟩
                  have n2_ : Aside0 (Below w.heap.size w ((((w16.setCell ⟨gb145, 0, none⟩ (.int .i64 t137)).setCell ⟨gb145, 1, none⟩ (.int .i64 t138)).setCell ⟨gb145, 2, none⟩ (.int .i64 t139)).setCell ⟨gb145, 3, none⟩ (.int .u8 t140))) := ⟨by repeat (first | (with_reducible first | exact HB.out | apply pA | apply pN | apply pD | refine pS ?_ GE145.out) | exact HB.out)⟩
                  (try clear HO143)
                  (try clear BK145)
                  (try clear HB)
                  generalize ((((w16.setCell ⟨gb145, 0, none⟩ (.int .i64 t137)).setCell ⟨gb145, 1, none⟩ (.int .i64 t138)).setCell ⟨gb145, 2, none⟩ (.int .i64 t139)).setCell ⟨gb145, 3, none⟩ (.int .u8 t140)) = w18 at n0_ n1_ n2_ ⊢
                  have HO143 := n0_
                  have BK145 := n1_
                  have HB := n2_
                  clear n0_ n1_ n2_
                  have n0_ := Aside0.mk (Kd.R_drew HO143.out)
                  have n1_ := Aside0.mk (qD BK145.out)
                  have n2_ := Aside0.mk (pD HB.out)
                  clear HO143
                  clear BK145
                  clear HB
                  have HO143 := n0_
                  have BK145 := n1_
                  have HB := n2_
                  clear n0_ n1_ n2_
                  refine start_ (n := 5) (S := fun w' => w'.cell? ⟨gb145, 0, none⟩ = some (.int .i64 t137) ∧ w'.cell? ⟨gb145, 1, none⟩ = some (.int .i64 t138) ∧ w'.cell? ⟨gb145, 2, none⟩ = some (.int .i64 t139) ∧ w'.cell? ⟨gb145, 3, none⟩ = some (.int .u8 t140)) (ds := []) #[false, false, false, false, false] (by kernel_rfl) rfl rfl ⟨(blk_cell BK145.out 0).trans rfl, (blk_cell BK145.out 1).trans rfl, (blk_cell BK145.out 2).trans rfl, (blk_cell BK145.out 3).trans rfl⟩ (fun hHeld => ?_)
                  generalize w18.drew = w19 at HO143 BK145 HB hHeld ⊢
                  refine take_ (i := 0) (N := some 13) (v := ?_) (a' := ?_) #[true, false, false, false, false] rfl rfl (by kernel_rfl) (fun _ _ _ h => h) (Or.inl ⟨by rfl, ?_⟩) hHeld ?_ ?_
                  rotate_left
                  · rintro w' ⟨s0, s1, s2, s3⟩
                    go_simp
                    with_reducible rfl
                  rotate_left
                  · simp only [Act.put, List.setIfInBounds_toArray, List.set_cons_zero, List.set_cons_succ, i64_w, i32_w]
                    rfl
                  refine join_ (σ := Nat) 1 #[true, true, true, true, false] (fun s_ => [(14, .int .i64 t146), (15, .agg #[.int .i64 t147, .int .i64 t148, .int .i64 t149, .int .u8 t150]), (4, .pointer (some ⟨s_, 0, none⟩))]) (fun s_ w' => (w'.cell? ⟨gb145, 0, none⟩ = some (.int .i64 t137) ∧ w'.cell? ⟨gb145, 1, none⟩ = some (.int .i64 t138) ∧ w'.cell? ⟨gb145, 2, none⟩ = some (.int .i64 t139) ∧ w'.cell? ⟨gb145, 3, none⟩ = some (.int .u8 t140)) ∧ (Kd.R (Kd.int .i64) 3 w' w.heap.size (fun _ => True) v142 t141) ∧ (w'.heap[gb145]? = some (.cells #[.int .i64 t137, .int .i64 t138, .int .i64 t139, .int .u8 t140] 23 (0, 0))) ∧ (w'.heap[s_]? = some (.cells #[.int .i64 0, .int .i64 0, .int .i64 0, .int .u8 0] 23 (0, 0))) ∧ (w.heap.size ≤ s_) ∧ (w.heap.size ≤ s_) ∧ (gb145 ≠ s_) ∧ (s_ ≠ gb145) ∧ (Below w.heap.size w w')) ?_ ?_
                  rotate_left
                  · intro hCont
                    refine two_ (i := 1) (j := 3) (Ni := some 14) (Nj := some 4) #[true, true, false, false, false] #[true, false, false, true, false] rfl rfl rfl rfl (by kernel_rfl) (by decide) (by decide) (fun K hK => ?_) (fun K hK => ?_)
                    · skip
                      refine goes_ Tryd.func12 (by kernel_rfl) rfl #[] (by rfl) rfl rfl (by (try simp only [List.map_toArray, List.map_cons, List.map_nil]); first | done | rfl | (simp only [List.length_drop, List.length_take]; rfl)) ?_
                      with_reducible refine (auto_Bound.calls  t146 _ A2.out).mono ?_
                      rintro e w' ⟨rfl, ⟨nd, rfl⟩⟩
                      refine ⟨_, rfl, ?_⟩
                      refine hK.out _ _ ⟨(blk_cell BK145.out 0).trans rfl, (blk_cell BK145.out 1).trans rfl, (blk_cell BK145.out 2).trans rfl, (blk_cell BK145.out 3).trans rfl⟩ (fun hHeld => ?_)
                      clear hK K
                      refine norm_ (a' := ?_) ?_ ?_
                      rotate_left
                      · show Act.put _ (some 14) _ = _
                        simp only [Act.put, List.setIfInBounds_toArray, List.set_cons_zero, List.set_cons_succ, i64_w, i32_w]
                        rfl
                      refine two_ (i := 2) (j := 3) (Ni := some 15) (Nj := some 4) #[true, true, true, false, false] #[true, true, false, true, false] rfl rfl rfl rfl (by kernel_rfl) (by decide) (by decide) (fun K hK => ?_) (fun K hK => ?_)
                      · skip
                        refine goes_ Tryd.func18 (by kernel_rfl) rfl #[.agg #[.int .i64 t137, .int .i64 t138, .int .i64 t139, .int .u8 t140], .int .i64 t146] (by rfl) rfl rfl (by (try simp only [List.map_toArray, List.map_cons, List.map_nil]); first | done | rfl | (simp only [List.length_drop, List.length_take]; rfl)) ?_
                        with_reducible refine (auto_Quiet.calls k t137 t138 t139 t140 t146 t147 t148 t149 t150 _ ?side1 A3.out).mono ?_
                        (case side1 => exact (HGL.out.below (by repeat (first | (with_reducible first | exact HB.out | apply pA | apply pN | apply pD | refine pS ?_ GE145.out) | exact HB.out))))
                        rintro e w20 ⟨rfl, hb⟩
                        refine ⟨_, rfl, ?_⟩
                        have n0_ := Aside0.mk (Kd.R_below (by (with_reducible repeat (first | apply Kd.R_alloc | apply Kd.R_drewN | apply Kd.R_drew)); exact HO143.out) hb)
                        have n1_ := Aside0.mk (blk_below (g := gb145) (o := .cells #[.int .i64 t137, .int .i64 t138, .int .i64 t139, .int .u8 t140] 23 (0, 0)) (by (with_reducible repeat (first | refine qN ?_ _ | refine qD ?_ | refine qA ?_ _)); exact BK145.out) hb)
                        have n2_ := Aside0.mk (below_step (by repeat (first | (with_reducible first | exact HB.out | apply pA | apply pN | apply pD | refine pS ?_ GE145.out) | exact HB.out)) hb)
                        clear HO143
                        clear BK145
                        clear HB
                        have HO143 := n0_
                        have BK145 := n1_
                        have HB := n2_
                        clear n0_ n1_ n2_
                        (try clear hb)
                        (try clear hb2)
                        (try clear hk)
                        (try clear hi)
                        refine hK.out _ _ ⟨(blk_cell BK145.out 0).trans rfl, (blk_cell BK145.out 1).trans rfl, (blk_cell BK145.out 2).trans rfl, (blk_cell BK145.out 3).trans rfl⟩ (fun hHeld => ?_)
                        clear hK K
                        refine norm_ (a' := ?_) ?_ ?_
                        rotate_left
                        · show Act.put _ (some 15) _ = _
                          simp only [Act.put, List.setIfInBounds_toArray, List.set_cons_zero, List.set_cons_succ, i64_w, i32_w]
                          rfl
                        refine one_ (i := 3) (N := some 4) #[true, true, true, true, false] rfl rfl (by kernel_rfl) (by decide) (fun K hK => ?_)
                        refine box_step ?hg (N := 4) ?hd (cs := #[.int .i64 0, .int .i64 0, .int .i64 0, .int .u8 0]) (t := 23) ?hr ?_; (case hd => rfl); (case hg => rfl); (case hr => first | (go_simp; done) | (go_simp; rfl))
                        intro gb151 hg w21 hbox hb
                        have n0_ := Aside0.mk (Kd.R_below (by (with_reducible repeat (first | apply Kd.R_alloc | apply Kd.R_drewN | apply Kd.R_drew)); exact HO143.out) hb)
                        have n1_ := Aside0.mk (blk_below (g := gb145) (o := .cells #[.int .i64 t137, .int .i64 t138, .int .i64 t139, .int .u8 t140] 23 (0, 0)) (by (with_reducible repeat (first | refine qN ?_ _ | refine qD ?_ | refine qA ?_ _)); exact BK145.out) hb)
                        have n2_ := Aside0.mk (below_step (by repeat (first | (with_reducible first | exact HB.out | apply pA | apply pN | apply pD | refine pS ?_ GE145.out) | exact HB.out)) hb)
                        have n3_ := Aside0.mk (hbox)
                        have n4_ := Aside0.mk ((by rw [hg]; exact (below_size (by repeat (first | (with_reducible first | exact HB.out | apply pA | apply pN | apply pD | refine pS ?_ GE145.out) | exact HB.out))) : w.heap.size ≤ gb151))
                        have n5_ := Aside0.mk ((by rw [hg]; exact (below_size (by repeat (first | (with_reducible first | exact HB.out | apply pA | apply pN | apply pD | refine pS ?_ GE145.out) | exact HB.out))) : w.heap.size ≤ gb151))
                        have n6_ := Aside0.mk ((by rw [hg]; exact Nat.ne_of_lt (blk_lt (g := gb145) (o := .cells #[.int .i64 t137, .int .i64 t138, .int .i64 t139, .int .u8 t140] 23 (0, 0)) (by (with_reducible repeat (first | refine qN ?_ _ | refine qD ?_ | refine qA ?_ _)); exact BK145.out)) : gb145 ≠ gb151))
                        have n7_ := Aside0.mk ((by rw [hg]; exact Nat.ne_of_gt (blk_lt (g := gb145) (o := .cells #[.int .i64 t137, .int .i64 t138, .int .i64 t139, .int .u8 t140] 23 (0, 0)) (by (with_reducible repeat (first | refine qN ?_ _ | refine qD ?_ | refine qA ?_ _)); exact BK145.out)) : gb151 ≠ gb145))
                        clear HO143
                        clear BK145
                        clear HB
                        have HO143 := n0_
                        have BK145 := n1_
                        have HB := n2_
                        have BK151 := n3_
                        have GW151 := n4_
                        have GE151 := n5_
                        have NB145_151 := n6_
                        have NB151_145 := n7_
                        clear n0_ n1_ n2_ n3_ n4_ n5_ n6_ n7_
                        clear hb hbox hg
                        refine hK.out _ _ ⟨(blk_cell BK145.out 0).trans rfl, (blk_cell BK145.out 1).trans rfl, (blk_cell BK145.out 2).trans rfl, (blk_cell BK145.out 3).trans rfl⟩ (fun hHeld => ?_)
                        clear hK K
                        refine norm_ (a' := ?_) ?_ ?_
                        rotate_left
                        · show Act.put _ (some 4) _ = _
                          simp only [Act.put, List.setIfInBounds_toArray, List.set_cons_zero, List.set_cons_succ, i64_w, i32_w]
                          rfl
                        exact norm_ (by simp only [putAll, Act.put, List.setIfInBounds_toArray, List.set_cons_zero, List.set_cons_succ]) (hCont (gb151) _ ⟨hHeld, (by (with_reducible repeat (first | apply Kd.R_alloc | apply Kd.R_drewN | apply Kd.R_drew)); exact HO143.out), (by (with_reducible repeat (first | refine qN ?_ _ | refine qD ?_ | refine qA ?_ _)); exact BK145.out), (by (with_reducible repeat (first | refine qN ?_ _ | refine qD ?_ | refine qA ?_ _)); exact BK151.out), GW151.out, GE151.out, NB145_151.out, NB151_145.out, (by repeat (first | (with_reducible first | exact HB.out | apply pA | apply pN | apply pD | refine pS ?_ GE145.out | refine pS ?_ GE151.out) | exact HB.out))⟩)
                      · skip
                        refine box_step ?hg (N := 4) ?hd (cs := #[.int .i64 0, .int .i64 0, .int .i64 0, .int .u8 0]) (t := 23) ?hr ?_; (case hd => rfl); (case hg => rfl); (case hr => first | (go_simp; done) | (go_simp; rfl))
                        intro gb151 hg w20 hbox hb
                        have n0_ := Aside0.mk (Kd.R_below (by (with_reducible repeat (first | apply Kd.R_alloc | apply Kd.R_drewN | apply Kd.R_drew)); exact HO143.out) hb)
                        have n1_ := Aside0.mk (blk_below (g := gb145) (o := .cells #[.int .i64 t137, .int .i64 t138, .int .i64 t139, .int .u8 t140] 23 (0, 0)) (by (with_reducible repeat (first | refine qN ?_ _ | refine qD ?_ | refine qA ?_ _)); exact BK145.out) hb)
                        have n2_ := Aside0.mk (below_step (by repeat (first | (with_reducible first | exact HB.out | apply pA | apply pN | apply pD | refine pS ?_ GE145.out) | exact HB.out)) hb)
                        have n3_ := Aside0.mk (hbox)
                        have n4_ := Aside0.mk ((by rw [hg]; exact (below_size (by repeat (first | (with_reducible first | exact HB.out | apply pA | apply pN | apply pD | refine pS ?_ GE145.out) | exact HB.out))) : w.heap.size ≤ gb151))
                        have n5_ := Aside0.mk ((by rw [hg]; exact (below_size (by repeat (first | (with_reducible first | exact HB.out | apply pA | apply pN | apply pD | refine pS ?_ GE145.out) | exact HB.out))) : w.heap.size ≤ gb151))
                        have n6_ := Aside0.mk ((by rw [hg]; exact Nat.ne_of_lt (blk_lt (g := gb145) (o := .cells #[.int .i64 t137, .int .i64 t138, .int .i64 t139, .int .u8 t140] 23 (0, 0)) (by (with_reducible repeat (first | refine qN ?_ _ | refine qD ?_ | refine qA ?_ _)); exact BK145.out)) : gb145 ≠ gb151))
                        have n7_ := Aside0.mk ((by rw [hg]; exact Nat.ne_of_gt (blk_lt (g := gb145) (o := .cells #[.int .i64 t137, .int .i64 t138, .int .i64 t139, .int .u8 t140] 23 (0, 0)) (by (with_reducible repeat (first | refine qN ?_ _ | refine qD ?_ | refine qA ?_ _)); exact BK145.out)) : gb151 ≠ gb145))
                        clear HO143
                        clear BK145
                        clear HB
                        have HO143 := n0_
                        have BK145 := n1_
                        have HB := n2_
                        have BK151 := n3_
                        have GW151 := n4_
                        have GE151 := n5_
                        have NB145_151 := n6_
                        have NB151_145 := n7_
                        clear n0_ n1_ n2_ n3_ n4_ n5_ n6_ n7_
                        clear hb hbox hg
                        refine hK.out _ _ ⟨(blk_cell BK145.out 0).trans rfl, (blk_cell BK145.out 1).trans rfl, (blk_cell BK145.out 2).trans rfl, (blk_cell BK145.out 3).trans rfl⟩ (fun hHeld => ?_)
                        clear hK K
                        refine norm_ (a' := ?_) ?_ ?_
                        rotate_left
                        · show Act.put _ (some 4) _ = _
                          simp only [Act.put, List.setIfInBounds_toArray, List.set_cons_zero, List.set_cons_succ, i64_w, i32_w]
                          rfl
                        refine one_ (i := 2) (N := some 15) #[true, true, true, true, false] rfl rfl (by kernel_rfl) (by decide) (fun K hK => ?_)
                        refine goes_ Tryd.func18 (by kernel_rfl) rfl #[.agg #[.int .i64 t137, .int .i64 t138, .int .i64 t139, .int .u8 t140], .int .i64 t146] (by rfl) rfl rfl (by (try simp only [List.map_toArray, List.map_cons, List.map_nil]); first | done | rfl | (simp only [List.length_drop, List.length_take]; rfl)) ?_
                        with_reducible refine (auto_Quiet.calls k t137 t138 t139 t140 t146 t147 t148 t149 t150 _ ?side1 A3.out).mono ?_
                        (case side1 => exact (HGL.out.below (by repeat (first | (with_reducible first | exact HB.out | apply pA | apply pN | apply pD | refine pS ?_ GE145.out | refine pS ?_ GE151.out) | exact HB.out))))
                        rintro e w21 ⟨rfl, hb⟩
                        refine ⟨_, rfl, ?_⟩
                        have n0_ := Aside0.mk (Kd.R_below (by (with_reducible repeat (first | apply Kd.R_alloc | apply Kd.R_drewN | apply Kd.R_drew)); exact HO143.out) hb)
                        have n1_ := Aside0.mk (blk_below (g := gb145) (o := .cells #[.int .i64 t137, .int .i64 t138, .int .i64 t139, .int .u8 t140] 23 (0, 0)) (by (with_reducible repeat (first | refine qN ?_ _ | refine qD ?_ | refine qA ?_ _)); exact BK145.out) hb)
                        have n2_ := Aside0.mk (blk_below (g := gb151) (o := .cells #[.int .i64 0, .int .i64 0, .int .i64 0, .int .u8 0] 23 (0, 0)) (by (with_reducible repeat (first | refine qN ?_ _ | refine qD ?_ | refine qA ?_ _)); exact BK151.out) hb)
                        have n3_ := Aside0.mk (below_step (by repeat (first | (with_reducible first | exact HB.out | apply pA | apply pN | apply pD | refine pS ?_ GE145.out | refine pS ?_ GE151.out) | exact HB.out)) hb)
                        clear HO143
                        clear BK145
                        clear BK151
                        clear HB
                        have HO143 := n0_
                        have BK145 := n1_
                        have BK151 := n2_
                        have HB := n3_
                        clear n0_ n1_ n2_ n3_
                        (try clear hb)
                        (try clear hb2)
                        (try clear hk)
                        (try clear hi)
                        refine hK.out _ _ ⟨(blk_cell BK145.out 0).trans rfl, (blk_cell BK145.out 1).trans rfl, (blk_cell BK145.out 2).trans rfl, (blk_cell BK145.out 3).trans rfl⟩ (fun hHeld => ?_)
                        clear hK K
                        refine norm_ (a' := ?_) ?_ ?_
                        rotate_left
                        · show Act.put _ (some 15) _ = _
                          simp only [Act.put, List.setIfInBounds_toArray, List.set_cons_zero, List.set_cons_succ, i64_w, i32_w]
                          rfl
                        exact norm_ (by simp only [putAll, Act.put, List.setIfInBounds_toArray, List.set_cons_zero, List.set_cons_succ]) (hCont (gb151) _ ⟨hHeld, (by (with_reducible repeat (first | apply Kd.R_alloc | apply Kd.R_drewN | apply Kd.R_drew)); exact HO143.out), (by (with_reducible repeat (first | refine qN ?_ _ | refine qD ?_ | refine qA ?_ _)); exact BK145.out), (by (with_reducible repeat (first | refine qN ?_ _ | refine qD ?_ | refine qA ?_ _)); exact BK151.out), GW151.out, GE151.out, NB145_151.out, NB151_145.out, (by repeat (first | (with_reducible first | exact HB.out | apply pA | apply pN | apply pD | refine pS ?_ GE145.out | refine pS ?_ GE151.out) | exact HB.out))⟩)
                    · skip
                      refine box_step ?hg (N := 4) ?hd (cs := #[.int .i64 0, .int .i64 0, .int .i64 0, .int .u8 0]) (t := 23) ?hr ?_; (case hd => rfl); (case hg => rfl); (case hr => first | (go_simp; done) | (go_simp; rfl))
                      intro gb151 hg w20 hbox hb
                      have n0_ := Aside0.mk (Kd.R_below (by (with_reducible repeat (first | apply Kd.R_alloc | apply Kd.R_drewN | apply Kd.R_drew)); exact HO143.out) hb)
                      have n1_ := Aside0.mk (blk_below (g := gb145) (o := .cells #[.int .i64 t137, .int .i64 t138, .int .i64 t139, .int .u8 t140] 23 (0, 0)) (by (with_reducible repeat (first | refine qN ?_ _ | refine qD ?_ | refine qA ?_ _)); exact BK145.out) hb)
                      have n2_ := Aside0.mk (below_step (by repeat (first | (with_reducible first | exact HB.out | apply pA | apply pN | apply pD | refine pS ?_ GE145.out) | exact HB.out)) hb)
                      have n3_ := Aside0.mk (hbox)
                      have n4_ := Aside0.mk ((by rw [hg]; exact (below_size (by repeat (first | (with_reducible first | exact HB.out | apply pA | apply pN | apply pD | refine pS ?_ GE145.out) | exact HB.out))) : w.heap.size ≤ gb151))
                      have n5_ := Aside0.mk ((by rw [hg]; exact (below_size (by repeat (first | (with_reducible first | exact HB.out | apply pA | apply pN | apply pD | refine pS ?_ GE145.out) | exact HB.out))) : w.heap.size ≤ gb151))
                      have n6_ := Aside0.mk ((by rw [hg]; exact Nat.ne_of_lt (blk_lt (g := gb145) (o := .cells #[.int .i64 t137, .int .i64 t138, .int .i64 t139, .int .u8 t140] 23 (0, 0)) (by (with_reducible repeat (first | refine qN ?_ _ | refine qD ?_ | refine qA ?_ _)); exact BK145.out)) : gb145 ≠ gb151))
                      have n7_ := Aside0.mk ((by rw [hg]; exact Nat.ne_of_gt (blk_lt (g := gb145) (o := .cells #[.int .i64 t137, .int .i64 t138, .int .i64 t139, .int .u8 t140] 23 (0, 0)) (by (with_reducible repeat (first | refine qN ?_ _ | refine qD ?_ | refine qA ?_ _)); exact BK145.out)) : gb151 ≠ gb145))
                      clear HO143
                      clear BK145
                      clear HB
                      have HO143 := n0_
                      have BK145 := n1_
                      have HB := n2_
                      have BK151 := n3_
                      have GW151 := n4_
                      have GE151 := n5_
                      have NB145_151 := n6_
                      have NB151_145 := n7_
                      clear n0_ n1_ n2_ n3_ n4_ n5_ n6_ n7_
                      clear hb hbox hg
                      refine hK.out _ _ ⟨(blk_cell BK145.out 0).trans rfl, (blk_cell BK145.out 1).trans rfl, (blk_cell BK145.out 2).trans rfl, (blk_cell BK145.out 3).trans rfl⟩ (fun hHeld => ?_)
                      clear hK K
                      refine norm_ (a' := ?_) ?_ ?_
                      rotate_left
                      · show Act.put _ (some 4) _ = _
                        simp only [Act.put, List.setIfInBounds_toArray, List.set_cons_zero, List.set_cons_succ, i64_w, i32_w]
                        rfl
                      refine one_ (i := 1) (N := some 14) #[true, true, false, true, false] rfl rfl (by kernel_rfl) (by decide) (fun K hK => ?_)
                      refine goes_ Tryd.func12 (by kernel_rfl) rfl #[] (by rfl) rfl rfl (by (try simp only [List.map_toArray, List.map_cons, List.map_nil]); first | done | rfl | (simp only [List.length_drop, List.length_take]; rfl)) ?_
                      with_reducible refine (auto_Bound.calls  t146 _ A2.out).mono ?_
                      rintro e w' ⟨rfl, ⟨nd, rfl⟩⟩
                      refine ⟨_, rfl, ?_⟩
                      refine hK.out _ _ ⟨(blk_cell BK145.out 0).trans rfl, (blk_cell BK145.out 1).trans rfl, (blk_cell BK145.out 2).trans rfl, (blk_cell BK145.out 3).trans rfl⟩ (fun hHeld => ?_)
                      clear hK K
                      refine norm_ (a' := ?_) ?_ ?_
                      rotate_left
                      · show Act.put _ (some 14) _ = _
                        simp only [Act.put, List.setIfInBounds_toArray, List.set_cons_zero, List.set_cons_succ, i64_w, i32_w]
                        rfl
                      refine one_ (i := 2) (N := some 15) #[true, true, true, true, false] rfl rfl (by kernel_rfl) (by decide) (fun K hK => ?_)
                      refine goes_ Tryd.func18 (by kernel_rfl) rfl #[.agg #[.int .i64 t137, .int .i64 t138, .int .i64 t139, .int .u8 t140], .int .i64 t146] (by rfl) rfl rfl (by (try simp only [List.map_toArray, List.map_cons, List.map_nil]); first | done | rfl | (simp only [List.length_drop, List.length_take]; rfl)) ?_
                      with_reducible refine (auto_Quiet.calls k t137 t138 t139 t140 t146 t147 t148 t149 t150 _ ?side1 A3.out).mono ?_
                      (case side1 => exact (HGL.out.below (by repeat (first | (with_reducible first | exact HB.out | apply pA | apply pN | apply pD | refine pS ?_ GE145.out | refine pS ?_ GE151.out) | exact HB.out))))
                      rintro e w21 ⟨rfl, hb⟩
                      refine ⟨_, rfl, ?_⟩
                      have n0_ := Aside0.mk (Kd.R_below (by (with_reducible repeat (first | apply Kd.R_alloc | apply Kd.R_drewN | apply Kd.R_drew)); exact HO143.out) hb)
                      have n1_ := Aside0.mk (blk_below (g := gb145) (o := .cells #[.int .i64 t137, .int .i64 t138, .int .i64 t139, .int .u8 t140] 23 (0, 0)) (by (with_reducible repeat (first | refine qN ?_ _ | refine qD ?_ | refine qA ?_ _)); exact BK145.out) hb)
                      have n2_ := Aside0.mk (blk_below (g := gb151) (o := .cells #[.int .i64 0, .int .i64 0, .int .i64 0, .int .u8 0] 23 (0, 0)) (by (with_reducible repeat (first | refine qN ?_ _ | refine qD ?_ | refine qA ?_ _)); exact BK151.out) hb)
                      have n3_ := Aside0.mk (below_step (by repeat (first | (with_reducible first | exact HB.out | apply pA | apply pN | apply pD | refine pS ?_ GE145.out | refine pS ?_ GE151.out) | exact HB.out)) hb)
                      clear HO143
                      clear BK145
                      clear BK151
                      clear HB
                      have HO143 := n0_
                      have BK145 := n1_
                      have BK151 := n2_
                      have HB := n3_
                      clear n0_ n1_ n2_ n3_
                      (try clear hb)
                      (try clear hb2)
                      (try clear hk)
                      (try clear hi)
                      refine hK.out _ _ ⟨(blk_cell BK145.out 0).trans rfl, (blk_cell BK145.out 1).trans rfl, (blk_cell BK145.out 2).trans rfl, (blk_cell BK145.out 3).trans rfl⟩ (fun hHeld => ?_)
                      clear hK K
                      refine norm_ (a' := ?_) ?_ ?_
                      rotate_left
                      · show Act.put _ (some 15) _ = _
                        simp only [Act.put, List.setIfInBounds_toArray, List.set_cons_zero, List.set_cons_succ, i64_w, i32_w]
                        rfl
                      exact norm_ (by simp only [putAll, Act.put, List.setIfInBounds_toArray, List.set_cons_zero, List.set_cons_succ]) (hCont (gb151) _ ⟨hHeld, (by (with_reducible repeat (first | apply Kd.R_alloc | apply Kd.R_drewN | apply Kd.R_drew)); exact HO143.out), (by (with_reducible repeat (first | refine qN ?_ _ | refine qD ?_ | refine qA ?_ _)); exact BK145.out), (by (with_reducible repeat (first | refine qN ?_ _ | refine qD ?_ | refine qA ?_ _)); exact BK151.out), GW151.out, GE151.out, NB145_151.out, NB151_145.out, (by repeat (first | (with_reducible first | exact HB.out | apply pA | apply pN | apply pD | refine pS ?_ GE145.out | refine pS ?_ GE151.out) | exact HB.out))⟩)
                  rintro gb151 w22 ⟨hS_, h0_, h1_, h2_, h3_, h4_, h5_, h6_, h7_⟩
                  have n0_ : Aside0 (Kd.R (Kd.int .i64) 3 w22 w.heap.size (fun _ => True) v142 t141) := ⟨h0_⟩
                  have n1_ : Aside0 (w22.heap[gb145]? = some (.cells #[.int .i64 t137, .int .i64 t138, .int .i64 t139, .int .u8 t140] 23 (0, 0))) := ⟨h1_⟩
                  have n2_ : Aside0 (w22.heap[gb151]? = some (.cells #[.int .i64 0, .int .i64 0, .int .i64 0, .int .u8 0] 23 (0, 0))) := ⟨h2_⟩
                  have n3_ : Aside0 (w.heap.size ≤ gb151) := ⟨h3_⟩
                  have n4_ : Aside0 (w.heap.size ≤ gb151) := ⟨h4_⟩
                  have n5_ : Aside0 (gb145 ≠ gb151) := ⟨h5_⟩
                  have n6_ : Aside0 (gb151 ≠ gb145) := ⟨h6_⟩
                  have n7_ : Aside0 (Below w.heap.size w w22) := ⟨h7_⟩
                  clear HO143
                  clear BK145
                  clear HB
                  clear h0_ h1_ h2_ h3_ h4_ h5_ h6_ h7_
                  have HO143 := n0_
                  have BK145 := n1_
                  have BK151 := n2_
                  have GW151 := n3_
                  have GE151 := n4_
                  have NB145_151 := n5_
                  have NB151_145 := n6_
                  have HB := n7_
                  clear n0_ n1_ n2_ n3_ n4_ n5_ n6_ n7_
                  have hHeld : w22.cell? ⟨gb145, 0, none⟩ = some (.int .i64 t137) ∧ w22.cell? ⟨gb145, 1, none⟩ = some (.int .i64 t138) ∧ w22.cell? ⟨gb145, 2, none⟩ = some (.int .i64 t139) ∧ w22.cell? ⟨gb145, 3, none⟩ = some (.int .u8 t140) := hS_
                  refine norm_ (a' := ?_) ?_ ?_
                  rotate_left
                  · simp only [putAll, Act.put, List.setIfInBounds_toArray, List.set_cons_zero, List.set_cons_succ]
                    rfl
                  refine one_ (i := 4) (N := none) #[true, true, true, true, true] rfl rfl (by kernel_rfl) (by decide) (fun K hK => ?_)
                  have hs23 : w22.cell? ⟨gb151, 0, none⟩ = some (.int .i64 0) := (blk_cell BK151.out 0).trans rfl
                  have hfs23 := blk_frozen BK151.out 0
                  have hns23_0 := NB145_151.out
                  have hms23_0 := NB151_145.out
                  have hs24 : w22.cell? ⟨gb151, 1, none⟩ = some (.int .i64 0) := (blk_cell BK151.out 1).trans rfl
                  have hfs24 := blk_frozen BK151.out 1
                  have hns24_0 := NB145_151.out
                  have hms24_0 := NB151_145.out
                  have hs25 : w22.cell? ⟨gb151, 2, none⟩ = some (.int .i64 0) := (blk_cell BK151.out 2).trans rfl
                  have hfs25 := blk_frozen BK151.out 2
                  have hns25_0 := NB145_151.out
                  have hms25_0 := NB151_145.out
                  have hs26 : w22.cell? ⟨gb151, 3, none⟩ = some (.int .u8 0) := (blk_cell BK151.out 3).trans rfl
                  have hfs26 := blk_frozen BK151.out 3
                  have hns26_0 := NB145_151.out
                  have hms26_0 := NB151_145.out
                  refine skip_ (w1 := ?_) (by rfl) rfl ?_ ?_
                  rotate_left
                  · go_simp
                    rfl
                  refine hK.out _ _ ⟨((cell_far (p := ⟨gb151, _, none⟩) NB145_151.out _).trans (((cell_far (p := ⟨gb151, _, none⟩) NB145_151.out _).trans (((cell_far (p := ⟨gb151, _, none⟩) NB145_151.out _).trans (((cell_far (p := ⟨gb151, _, none⟩) NB145_151.out _).trans (hHeld.1)))))))), ((cell_far (p := ⟨gb151, _, none⟩) NB145_151.out _).trans (((cell_far (p := ⟨gb151, _, none⟩) NB145_151.out _).trans (((cell_far (p := ⟨gb151, _, none⟩) NB145_151.out _).trans (((cell_far (p := ⟨gb151, _, none⟩) NB145_151.out _).trans (hHeld.2.1)))))))), ((cell_far (p := ⟨gb151, _, none⟩) NB145_151.out _).trans (((cell_far (p := ⟨gb151, _, none⟩) NB145_151.out _).trans (((cell_far (p := ⟨gb151, _, none⟩) NB145_151.out _).trans (((cell_far (p := ⟨gb151, _, none⟩) NB145_151.out _).trans (hHeld.2.2.1)))))))), ((cell_far (p := ⟨gb151, _, none⟩) NB145_151.out _).trans (((cell_far (p := ⟨gb151, _, none⟩) NB145_151.out _).trans (((cell_far (p := ⟨gb151, _, none⟩) NB145_151.out _).trans (((cell_far (p := ⟨gb151, _, none⟩) NB145_151.out _).trans (hHeld.2.2.2))))))))⟩ (fun hHeld => ?_)
                  clear hK K
                  refine done_ (by kernel_rfl) ?_
                  have hnb27 := NB151_145.out
                  have hnc27 := NB145_151.out
                  have hcz28_0 : w22.cell? ⟨gb151, 0, none⟩ = some (.int .i64 0) := (blk_cell BK151.out 0).trans rfl
                  have hcz28_1 : w22.cell? ⟨gb151, 1, none⟩ = some (.int .i64 0) := (blk_cell BK151.out 1).trans rfl
                  have hcz28_2 : w22.cell? ⟨gb151, 2, none⟩ = some (.int .i64 0) := (blk_cell BK151.out 2).trans rfl
                  have hcz28_3 : w22.cell? ⟨gb151, 3, none⟩ = some (.int .u8 0) := (blk_cell BK151.out 3).trans rfl
                  have hfz28_0 := blk_frozen BK151.out 0
                  have hfz28_1 := blk_frozen BK151.out 1
                  have hfz28_2 := blk_frozen BK151.out 2
                  have hfz28_3 := blk_frozen BK151.out 3
                  try go_wp2_with (first | ((with_reducible refine gate_callee (f := 15) rfl ?_); refine goesL_ (some 18) rfl rfl Tryd.func15 (by kernel_rfl) rfl #[.agg #[.int .i64 t147, .int .i64 t148, .int .i64 t149, .int .u8 t150]] rfl (by (try simp only [List.map_toArray, List.map_cons, List.map_nil]); first | done | rfl | (simp only [List.length_drop, List.length_take]; rfl)) ?_; (with_reducible refine (auto_Tick.calls t147 t148 t149 t150 t152 t153 t154 t155 t156 _ ?side1 A4.out).mono ?_); (case side1 => exact (HGL.out.below (by repeat (first | (with_reducible first | exact HB.out | apply pA | apply pN | apply pD | refine pS ?_ GE145.out | refine pS ?_ GE151.out) | exact HB.out)))); rintro e w29 ⟨v157, rfl, ho0, hb⟩; refine ⟨_, rfl, ?_⟩; have n0_ := Aside0.mk (Kd.R_elder' (by (with_reducible repeat (first | apply Kd.R_alloc | apply Kd.R_drewN | apply Kd.R_drew)); exact (Kd.R_mono (Kd.R_far (p := ⟨gb151, 3, none⟩) (Kd.R_far (p := ⟨gb151, 2, none⟩) (Kd.R_far (p := ⟨gb151, 1, none⟩) (Kd.R_far (p := ⟨gb151, 0, none⟩) (Kd.R_types HO143.out BK151.out (by decide)) (fun _ hk => hk.2) (.int .i64 t147)) (fun _ hk => hk.2) (.int .i64 t148)) (fun _ hk => hk.2) (.int .i64 t149)) (fun _ hk => hk.2) (.int .u8 t150)) (fun _ h_ => h_.1))) (Kd.R_base ho0) hb); have n1_ := Aside0.mk (Kd.R_lower (Kd.R_new' ho0 (Kd.R_lt (by (with_reducible repeat (first | apply Kd.R_alloc | apply Kd.R_drewN | apply Kd.R_drew)); exact (Kd.R_mono (Kd.R_far (p := ⟨gb151, 3, none⟩) (Kd.R_far (p := ⟨gb151, 2, none⟩) (Kd.R_far (p := ⟨gb151, 1, none⟩) (Kd.R_far (p := ⟨gb151, 0, none⟩) (Kd.R_types HO143.out BK151.out (by decide)) (fun _ hk => hk.2) (.int .i64 t147)) (fun _ hk => hk.2) (.int .i64 t148)) (fun _ hk => hk.2) (.int .i64 t149)) (fun _ hk => hk.2) (.int .u8 t150)) (fun _ h_ => h_.1))))) (below_size (by repeat (first | (with_reducible first | exact HB.out | apply pA | apply pN | apply pD | refine pS ?_ GE145.out | refine pS ?_ GE151.out) | exact HB.out)))); have n2_ := Aside0.mk (blk_below (g := gb145) (o := .cells #[.int .i64 t137, .int .i64 t138, .int .i64 t139, .int .u8 t140] 23 (0, 0)) (by (with_reducible repeat (first | refine qN ?_ _ | refine qD ?_ | refine qA ?_ _)); refine blk_far ?_ NB145_151.out _; (with_reducible repeat (first | refine qN ?_ _ | refine qD ?_ | refine qA ?_ _)); refine blk_far ?_ NB145_151.out _; (with_reducible repeat (first | refine qN ?_ _ | refine qD ?_ | refine qA ?_ _)); refine blk_far ?_ NB145_151.out _; (with_reducible repeat (first | refine qN ?_ _ | refine qD ?_ | refine qA ?_ _)); refine blk_far ?_ NB145_151.out _; (with_reducible repeat (first | refine qN ?_ _ | refine qD ?_ | refine qA ?_ _)); exact BK145.out) hb); have n3_ := Aside0.mk (blk_below (g := gb151) (o := .cells #[.int .i64 t147, .int .i64 t148, .int .i64 t149, .int .u8 t150] 23 (0, 0)) (by (with_reducible repeat (first | refine qN ?_ _ | refine qD ?_ | refine qA ?_ _)); refine blk_put (cs := #[.int .i64 t147, .int .i64 t148, .int .i64 t149, .int .u8 0]) ?_ 3 _ rfl; (with_reducible repeat (first | refine qN ?_ _ | refine qD ?_ | refine qA ?_ _)); refine blk_put (cs := #[.int .i64 t147, .int .i64 t148, .int .i64 0, .int .u8 0]) ?_ 2 _ rfl; (with_reducible repeat (first | refine qN ?_ _ | refine qD ?_ | refine qA ?_ _)); refine blk_put (cs := #[.int .i64 t147, .int .i64 0, .int .i64 0, .int .u8 0]) ?_ 1 _ rfl; (with_reducible repeat (first | refine qN ?_ _ | refine qD ?_ | refine qA ?_ _)); refine blk_put (cs := #[.int .i64 0, .int .i64 0, .int .i64 0, .int .u8 0]) ?_ 0 _ rfl; (with_reducible repeat (first | refine qN ?_ _ | refine qD ?_ | refine qA ?_ _)); exact BK151.out) hb); have n4_ := Aside0.mk (below_step (by repeat (first | (with_reducible first | exact HB.out | apply pA | apply pN | apply pD | refine pS ?_ GE145.out | refine pS ?_ GE151.out) | exact HB.out)) hb); clear HO143; clear BK145; clear BK151; clear HB; have HO143 := n0_; have HO158 := n1_; have BK145 := n2_; have BK151 := n3_; have HB := n4_; clear n0_ n1_ n2_ n3_ n4_; (try clear hb); (try clear hb2); (try clear hk); (try clear hi); (try clear ho0)) | ((with_reducible refine gate_dst (N := 5) rfl ?_); (try (refine gate_guard (by rfl) ?_; dsimp only)); refine box_event ?hg (N := 5) ?hd (cs := #[.int .i64 0, .int .i64 0, .int .i64 0, .int .u8 0]) (t := 23) ?hr ?_; (case hd => rfl); (case hg => rfl); (case hr => first | (go_simp; done) | (go_simp; rfl)); intro gb159 hg w30 hbox hb; have n0_ := Aside0.mk (Kd.R_below (by (with_reducible repeat (first | apply Kd.R_alloc | apply Kd.R_drewN | apply Kd.R_drew)); exact HO143.out) hb); have n1_ := Aside0.mk (Kd.R_below (by (with_reducible repeat (first | apply Kd.R_alloc | apply Kd.R_drewN | apply Kd.R_drew)); exact HO158.out) hb); have n2_ := Aside0.mk (blk_below (g := gb145) (o := .cells #[.int .i64 t137, .int .i64 t138, .int .i64 t139, .int .u8 t140] 23 (0, 0)) (by (with_reducible repeat (first | refine qN ?_ _ | refine qD ?_ | refine qA ?_ _)); exact BK145.out) hb); have n3_ := Aside0.mk (blk_below (g := gb151) (o := .cells #[.int .i64 t147, .int .i64 t148, .int .i64 t149, .int .u8 t150] 23 (0, 0)) (by (with_reducible repeat (first | refine qN ?_ _ | refine qD ?_ | refine qA ?_ _)); exact BK151.out) hb); have n4_ := Aside0.mk (below_step (by repeat (first | (with_reducible first | exact HB.out | apply pA | apply pN | apply pD | refine pS ?_ GE145.out | refine pS ?_ GE151.out) | exact HB.out)) hb); have n5_ := Aside0.mk (hbox); have n6_ := Aside0.mk ((by rw [hg]; exact (below_size (by repeat (first | (with_reducible first | exact HB.out | apply pA | apply pN | apply pD | refine pS ?_ GE145.out | refine pS ?_ GE151.out) | exact HB.out))) : w.heap.size ≤ gb159)); have n7_ := Aside0.mk ((by rw [hg]; exact (below_size (by repeat (first | (with_reducible first | exact HB.out | apply pA | apply pN | apply pD | refine pS ?_ GE145.out | refine pS ?_ GE151.out) | exact HB.out))) : w.heap.size ≤ gb159)); have n8_ := Aside0.mk ((by rw [hg]; exact Nat.ne_of_lt (blk_lt (g := gb145) (o := .cells #[.int .i64 t137, .int .i64 t138, .int .i64 t139, .int .u8 t140] 23 (0, 0)) (by (with_reducible repeat (first | refine qN ?_ _ | refine qD ?_ | refine qA ?_ _)); exact BK145.out)) : gb145 ≠ gb159)); have n9_ := Aside0.mk ((by rw [hg]; exact Nat.ne_of_gt (blk_lt (g := gb145) (o := .cells #[.int .i64 t137, .int .i64 t138, .int .i64 t139, .int .u8 t140] 23 (0, 0)) (by (with_reducible repeat (first | refine qN ?_ _ | refine qD ?_ | refine qA ?_ _)); exact BK145.out)) : gb159 ≠ gb145)); have n10_ := Aside0.mk ((by rw [hg]; exact Nat.ne_of_lt (blk_lt (g := gb151) (o := .cells #[.int .i64 t147, .int .i64 t148, .int .i64 t149, .int .u8 t150] 23 (0, 0)) (by (with_reducible repeat (first | refine qN ?_ _ | refine qD ?_ | refine qA ?_ _)); exact BK151.out)) : gb151 ≠ gb159)); have n11_ := Aside0.mk ((by rw [hg]; exact Nat.ne_of_gt (blk_lt (g := gb151) (o := .cells #[.int .i64 t147, .int .i64 t148, .int .i64 t149, .int .u8 t150] 23 (0, 0)) (by (with_reducible repeat (first | refine qN ?_ _ | refine qD ?_ | refine qA ?_ _)); exact BK151.out)) : gb159 ≠ gb151)); clear HO143; clear HO158; clear BK145; clear BK151; clear HB; have HO143 := n0_; have HO158 := n1_; have BK145 := n2_; have BK151 := n3_; have HB := n4_; have BK159 := n5_; have GW159 := n6_; have GE159 := n7_; have NB145_159 := n8_; have NB159_145 := n9_; have NB151_159 := n10_; have NB159_151 := n11_; clear n0_ n1_ n2_ n3_ n4_ n5_ n6_ n7_ n8_ n9_ n10_ n11_; clear hb hbox hg; have hnb31 := NB159_145.out; have hnc31 := NB145_159.out; have hnb32 := NB159_151.out; have hnc32 := NB151_159.out; have hcz33_0 : w30.cell? ⟨gb159, 0, none⟩ = some (.int .i64 0) := (blk_cell BK159.out 0).trans rfl; have hcz33_1 : w30.cell? ⟨gb159, 1, none⟩ = some (.int .i64 0) := (blk_cell BK159.out 1).trans rfl; have hcz33_2 : w30.cell? ⟨gb159, 2, none⟩ = some (.int .i64 0) := (blk_cell BK159.out 2).trans rfl; have hcz33_3 : w30.cell? ⟨gb159, 3, none⟩ = some (.int .u8 0) := (blk_cell BK159.out 3).trans rfl; have hfz33_0 := blk_frozen BK159.out 0; have hfz33_1 := blk_frozen BK159.out 1; have hfz33_2 := blk_frozen BK159.out 2; have hfz33_3 := blk_frozen BK159.out 3; obtain ⟨Ao34, co34, eo34⟩ := Kd.R_slice HO143.out; subst eo34; have hcz35_0 : w30.cell? ⟨gb145, 0, none⟩ = some (.int .i64 t137) := (blk_cell BK145.out 0).trans rfl; have hcz35_1 : w30.cell? ⟨gb145, 1, none⟩ = some (.int .i64 t138) := (blk_cell BK145.out 1).trans rfl; have hcz35_2 : w30.cell? ⟨gb145, 2, none⟩ = some (.int .i64 t139) := (blk_cell BK145.out 2).trans rfl; have hcz35_3 : w30.cell? ⟨gb145, 3, none⟩ = some (.int .u8 t140) := (blk_cell BK145.out 3).trans rfl; have hfz35_0 := blk_frozen BK145.out 0; have hfz35_1 := blk_frozen BK145.out 1; have hfz35_2 := blk_frozen BK145.out 2; have hfz35_3 := blk_frozen BK145.out 3) | (go_at_call 11; (with_reducible refine (auto_Right.calls k t137 t138 t139 t140 true _ A8.out).mono ?_); rintro e w36 ⟨rfl, hb⟩; have n0_ := Aside0.mk (Kd.R_below (by (with_reducible repeat (first | apply Kd.R_alloc | apply Kd.R_drewN | apply Kd.R_drew)); exact (Kd.R_mono (Kd.R_far (p := ⟨gb159, 3, none⟩) (Kd.R_far (p := ⟨gb159, 2, none⟩) (Kd.R_far (p := ⟨gb159, 1, none⟩) (Kd.R_far (p := ⟨gb159, 0, none⟩) (Kd.R_types HO143.out BK159.out (by decide)) (fun _ hk => hk.2) (.int .i64 t152)) (fun _ hk => hk.2) (.int .i64 t153)) (fun _ hk => hk.2) (.int .i64 t154)) (fun _ hk => hk.2) (.int .u8 t155)) (fun _ h_ => h_.1))) hb); have n1_ := Aside0.mk (Kd.R_below (by (with_reducible repeat (first | apply Kd.R_alloc | apply Kd.R_drewN | apply Kd.R_drew)); exact (Kd.R_mono (Kd.R_far (p := ⟨gb159, 3, none⟩) (Kd.R_far (p := ⟨gb159, 2, none⟩) (Kd.R_far (p := ⟨gb159, 1, none⟩) (Kd.R_far (p := ⟨gb159, 0, none⟩) (Kd.R_types HO158.out BK159.out (by decide)) (fun _ hk => hk.2) (.int .i64 t152)) (fun _ hk => hk.2) (.int .i64 t153)) (fun _ hk => hk.2) (.int .i64 t154)) (fun _ hk => hk.2) (.int .u8 t155)) (fun _ h_ => h_.1))) hb); have n2_ := Aside0.mk (blk_below (g := gb145) (o := .cells #[.int .i64 t137, .int .i64 t138, .int .i64 t139, .int .u8 t140] 23 (0, 0)) (by (with_reducible repeat (first | refine qN ?_ _ | refine qD ?_ | refine qA ?_ _)); refine blk_far ?_ NB145_159.out _; (with_reducible repeat (first | refine qN ?_ _ | refine qD ?_ | refine qA ?_ _)); refine blk_far ?_ NB145_159.out _; (with_reducible repeat (first | refine qN ?_ _ | refine qD ?_ | refine qA ?_ _)); refine blk_far ?_ NB145_159.out _; (with_reducible repeat (first | refine qN ?_ _ | refine qD ?_ | refine qA ?_ _)); refine blk_far ?_ NB145_159.out _; (with_reducible repeat (first | refine qN ?_ _ | refine qD ?_ | refine qA ?_ _)); exact BK145.out) hb); have n3_ := Aside0.mk (blk_below (g := gb151) (o := .cells #[.int .i64 t147, .int .i64 t148, .int .i64 t149, .int .u8 t150] 23 (0, 0)) (by (with_reducible repeat (first | refine qN ?_ _ | refine qD ?_ | refine qA ?_ _)); refine blk_far ?_ NB151_159.out _; (with_reducible repeat (first | refine qN ?_ _ | refine qD ?_ | refine qA ?_ _)); refine blk_far ?_ NB151_159.out _; (with_reducible repeat (first | refine qN ?_ _ | refine qD ?_ | refine qA ?_ _)); refine blk_far ?_ NB151_159.out _; (with_reducible repeat (first | refine qN ?_ _ | refine qD ?_ | refine qA ?_ _)); refine blk_far ?_ NB151_159.out _; (with_reducible repeat (first | refine qN ?_ _ | refine qD ?_ | refine qA ?_ _)); exact BK151.out) hb); have n4_ := Aside0.mk (blk_below (g := gb159) (o := .cells #[.int .i64 t152, .int .i64 t153, .int .i64 t154, .int .u8 t155] 23 (0, 0)) (by (with_reducible repeat (first | refine qN ?_ _ | refine qD ?_ | refine qA ?_ _)); refine blk_put (cs := #[.int .i64 t152, .int .i64 t153, .int .i64 t154, .int .u8 0]) ?_ 3 _ rfl; (with_reducible repeat (first | refine qN ?_ _ | refine qD ?_ | refine qA ?_ _)); refine blk_put (cs := #[.int .i64 t152, .int .i64 t153, .int .i64 0, .int .u8 0]) ?_ 2 _ rfl; (with_reducible repeat (first | refine qN ?_ _ | refine qD ?_ | refine qA ?_ _)); refine blk_put (cs := #[.int .i64 t152, .int .i64 0, .int .i64 0, .int .u8 0]) ?_ 1 _ rfl; (with_reducible repeat (first | refine qN ?_ _ | refine qD ?_ | refine qA ?_ _)); refine blk_put (cs := #[.int .i64 0, .int .i64 0, .int .i64 0, .int .u8 0]) ?_ 0 _ rfl; (with_reducible repeat (first | refine qN ?_ _ | refine qD ?_ | refine qA ?_ _)); exact BK159.out) hb); have n5_ := Aside0.mk (below_step (by repeat (first | (with_reducible first | exact HB.out | apply pA | apply pN | apply pD | refine pS ?_ GE145.out | refine pS ?_ GE151.out | refine pS ?_ GE159.out) | exact HB.out)) hb); clear HO143; clear HO158; clear BK145; clear BK151; clear BK159; clear HB; have HO143 := n0_; have HO158 := n1_; have BK145 := n2_; have BK151 := n3_; have BK159 := n4_; have HB := n5_; clear n0_ n1_ n2_ n3_ n4_ n5_; (try clear hb); (try clear hb2); (try clear hk); (try clear hi)) | (go_at_call 12; (with_reducible refine (auto_Bound.calls  t161 _ A10.out).mono ?_); rintro e w' ⟨rfl, ⟨nd, rfl⟩⟩; have hcz37_0 : w36.cell? ⟨gb151, 0, none⟩ = some (.int .i64 t147) := (blk_cell BK151.out 0).trans rfl; have hcz37_1 : w36.cell? ⟨gb151, 1, none⟩ = some (.int .i64 t148) := (blk_cell BK151.out 1).trans rfl; have hcz37_2 : w36.cell? ⟨gb151, 2, none⟩ = some (.int .i64 t149) := (blk_cell BK151.out 2).trans rfl; have hcz37_3 : w36.cell? ⟨gb151, 3, none⟩ = some (.int .u8 t150) := (blk_cell BK151.out 3).trans rfl; have hfz37_0 := blk_frozen BK151.out 0; have hfz37_1 := blk_frozen BK151.out 1; have hfz37_2 := blk_frozen BK151.out 2; have hfz37_3 := blk_frozen BK151.out 3; have hcz38_0 : w36.cell? ⟨gb159, 0, none⟩ = some (.int .i64 t152) := (blk_cell BK159.out 0).trans rfl; have hcz38_1 : w36.cell? ⟨gb159, 1, none⟩ = some (.int .i64 t153) := (blk_cell BK159.out 1).trans rfl; have hcz38_2 : w36.cell? ⟨gb159, 2, none⟩ = some (.int .i64 t154) := (blk_cell BK159.out 2).trans rfl; have hcz38_3 : w36.cell? ⟨gb159, 3, none⟩ = some (.int .u8 t155) := (blk_cell BK159.out 3).trans rfl; have hfz38_0 := blk_frozen BK159.out 0; have hfz38_1 := blk_frozen BK159.out 1; have hfz38_2 := blk_frozen BK159.out 2; have hfz38_3 := blk_frozen BK159.out 3; obtain ⟨Ao39, co39, eo39⟩ := Kd.R_slice HO158.out; subst eo39))
                  go_ret
                  exact ⟨by first | rfl | (simp [errW_none, errW_some] <;> rfl) | (simp [*, errW_none, errW_some] <;> rfl), by repeat (first | (with_reducible first | exact HB.out | apply pA | apply pN | apply pD | refine pS ?_ GE145.out | refine pS ?_ GE151.out | refine pS ?_ GE159.out) | exact HB.out)⟩
                · rw [if_neg c14] at H
                  have c14b0 : (t152 == t147 && (t153 == t148 && (t154 == t149 && (t155 == t150)))) = false := by simpa using c14
                  (try (have c14b1 : decide (t152 = t147 && (t153 == t148 && (t154 == t149 && (t155 == t150)))) = false := by simpa using c14))
                  (try (have c14b2 : (t152 == t147 && (t153 == t148 && (t154 == t149 && (t155 == t150)))) = false := by simpa using c14))
                  (try (have c14b3 : ¬ (t152 = t147 && (t153 == t148 && (t154 == t149 && (t155 == t150)))) := by simpa using c14))
                  clear c14
                  exact absurd ((Option.some.inj H).trans hlaw_.out) (by decide)
              · rw [if_neg c13] at H
                have c13b0 : (t150 == 5) = false := beq_eq_false_iff_ne.mpr c13
                have c13b1 : (t150 != 5) = true := bne_iff_ne.mpr c13
                exact absurd ((Option.some.inj H).trans hlaw_.out) (by decide)
            · rw [if_neg c12] at H
              have c12b0 : (t147 == 3) = false := beq_eq_false_iff_ne.mpr c12
              have c12b1 : (t147 != 3) = true := bne_iff_ne.mpr c12
              exact absurd ((Option.some.inj H).trans hlaw_.out) (by decide)
          · rw [if_neg c11] at H
            have c11b0 : (t161 == 18) = false := beq_eq_false_iff_ne.mpr c11
            have c11b1 : (t161 != 18) = true := bne_iff_ne.mpr c11
            exact absurd ((Option.some.inj H).trans hlaw_.out) (by decide)
        · replace c9 := Bool.eq_false_iff.mpr c9
          subst c9
          have H1 : (some false) = some r := by rw [if_neg (show ¬ (false = true) by decide)] at H; exact H
          clear H
          have H := H1
          clear H1
          exact absurd ((Option.some.inj H).trans hlaw_.out) (by decide)
      · rw [if_neg c7] at H
        have c7b0 : (t137 == 6 && (t138 == 4 && (t139 == 3 && (t140 == 1)))) = false := by simpa using c7
        (try (have c7b1 : decide (t137 = 6 && (t138 == 4 && (t139 == 3 && (t140 == 1)))) = false := by simpa using c7))
        (try (have c7b2 : (t137 == 6 && (t138 == 4 && (t139 == 3 && (t140 == 1)))) = false := by simpa using c7))
        (try (have c7b3 : ¬ (t137 = 6 && (t138 == 4 && (t139 == 3 && (t140 == 1)))) := by simpa using c7))
        clear c7
        exact absurd ((Option.some.inj H).trans hlaw_.out) (by decide)
    · rw [if_neg c6] at H
      have c6b0 : ((t141.length : Int) == 2) = false := beq_eq_false_iff_ne.mpr c6
      have c6b1 : ((t141.length : Int) != 2) = true := bne_iff_ne.mpr c6
      exact absurd ((Option.some.inj H).trans hlaw_.out) (by decide)
  · rw [if_neg c5] at H
    have c5b0 : (t144 == 0) = false := beq_eq_false_iff_ne.mpr c5
    have c5b1 : (t144 != 0) = true := bne_iff_ne.mpr c5
    exact absurd ((Option.some.inj H).trans hlaw_.out) (by decide)

def portreevelaw12_shown.f (k : Nat) : Option Bool := (portreevelaw12_shown_g.f k).bind fun b => if b = true then some true else none
theorem portreevelaw12_shown.mono : ∀ k, LeO (portreevelaw12_shown.f k) (portreevelaw12_shown.f (k + 1)) := fun k => LeO.bind (portreevelaw12_shown_g.mono k) (fun _ => LeO.refl _)
theorem portreevelaw12_shown.calls (k : Nat)  (r : Bool) (w : World) (hgl : Gl w) (h : portreevelaw12_shown.f k  = some r) :
    Calls Tryd.prog 9 #[] w fun e w' => e = .returned (.bool r) ∧ Below w.heap.size w w' := by
  unfold portreevelaw12_shown.f at h
  obtain ⟨b, hb, hc⟩ := Option.bind_eq_some_iff.1 h
  cases b with
  | false => exact absurd hc (by simp)
  | true =>
    rw [if_pos rfl] at hc
    obtain rfl := Option.some.inj hc
    exact portreevelaw12_shown_g.calls k true w (Aside0.mk rfl) hgl hb

/-! ### portreeveref11_Timed: function 21 -/
def portreeveref11_Timed.f (a0 : Int) : Option (Bool) := if a0 ≥ 4 then (some (decide (a0 ≤ 8))) else (some false)
set_option maxHeartbeats 8000000 in
set_option maxRecDepth 100000 in
theorem portreeveref11_Timed.calls (a0 : Int) (r : Bool) (w : World) (h : portreeveref11_Timed.f a0 = some r) :
    Calls Tryd.prog 21 #[.int .i64 a0] w fun e w' => e = .returned (.bool r) ∧ Drawn0 w w' := by
  have H : (if a0 ≥ 4 then (some (decide (a0 ≤ 8))) else (some false)) = some r := h
  clear h
  by_cases c2 : a0 ≥ 4
  · rw [if_pos c2] at H
    have c2b0 : decide (4 ≤ a0) = true := decide_eq_true c2
    clear c2
    obtain rfl := Option.some.inj H
    go_enter Tryd.func21, Tryd.ntmps21
    go_wp2
    go_ret
    exact ⟨by first | rfl | (simp; done) | (simp [*]; done), by repeat (first | exact Drawn0.refl _ | apply Drawn0.step)⟩
  · rw [if_neg c2] at H
    have c2b0 : decide (4 ≤ a0) = false := decide_eq_false c2
    clear c2
    obtain rfl := Option.some.inj H
    go_enter Tryd.func21, Tryd.ntmps21
    go_wp2
    go_ret
    exact ⟨by first | rfl | (simp; done) | (simp [*]; done), by repeat (first | exact Drawn0.refl _ | apply Drawn0.step)⟩

/-! ### portreeveref12_Right: function 10 -/
def portreeveref12_Right.j0 : Nat → Bool → Int → Int → Int → Int → Option (Bool)
  | 0, _, _, _, _, _ => none
  | k + 1, x21, x163000, x163001, x163002, x163003 => if x21 = true then (some false) else ((portreeveref11_Timed.f x163000).bind fun t163 => (if t163 = true then (if x163002 ≥ 1 then (if x163002 ≤ 3 then (some true) else (some false)) else (some false)) else (some (x163002 == 0))))
def portreeveref12_Right.f (k : Nat) (a0_0 : Int) (a0_1 : Int) (a0_2 : Int) (a0_3 : Int) : Option (Bool) := if a0_0 < 0 then (portreeveref12_Right.j0 k true a0_0 a0_1 a0_2 a0_3) else (if a0_0 > 9 then (portreeveref12_Right.j0 k true a0_0 a0_1 a0_2 a0_3) else (if a0_1 < 0 then (portreeveref12_Right.j0 k true a0_0 a0_1 a0_2 a0_3) else (portreeveref12_Right.j0 k (decide (a0_1 > 5)) a0_0 a0_1 a0_2 a0_3)))
theorem portreeveref12_Right.mono_l : ∀ k, (∀ y0 y1 y2 y3 y4, LeO (portreeveref12_Right.j0 k y0 y1 y2 y3 y4) (portreeveref12_Right.j0 (k + 1) y0 y1 y2 y3 y4))
  | 0 => fun _ _ _ _ _ r h => by simp [portreeveref12_Right.j0] at h
  | k + 1 => by
    have ih0 := portreeveref12_Right.mono_l k
    · intro y0 y1 y2 y3 y4
      unfold portreeveref12_Right.j0
      repeat' first
      | (with_reducible exact ih0 _ _ _ _ _)
      | (with_reducible exact LeO.refl _)
      | (with_reducible exact LeO.none _)
      | (with_reducible refine LeO.ite ?_ ?_)
      | (with_reducible refine LeO.bind ?_ (fun _ => ?_))
      | exact ih0 _ _ _ _ _
      | exact LeO.none _
      | refine LeO.ite ?_ ?_
      | refine LeO.bind ?_ (fun _ => ?_)
theorem portreeveref12_Right.mono : ∀ a0 a1 a2 a3 k, LeO (portreeveref12_Right.f k a0 a1 a2 a3) (portreeveref12_Right.f (k + 1) a0 a1 a2 a3) := by
  intro a0 a1 a2 a3 k
  have ih0 := portreeveref12_Right.mono_l k
  unfold portreeveref12_Right.f
  repeat' first
      | (with_reducible exact ih0 _ _ _ _ _)
      | (with_reducible exact LeO.refl _)
      | (with_reducible exact LeO.none _)
      | (with_reducible refine LeO.ite ?_ ?_)
      | (with_reducible refine LeO.bind ?_ (fun _ => ?_))
      | exact ih0 _ _ _ _ _
      | exact LeO.none _
      | refine LeO.ite ?_ ?_
      | refine LeO.bind ?_ (fun _ => ?_)
set_option maxHeartbeats 8000000 in
set_option maxRecDepth 100000 in
theorem portreeveref12_Right.calls (k : Nat) (a0_0 : Int) (a0_1 : Int) (a0_2 : Int) (a0_3 : Int) (r : Bool) (w : World) (h : portreeveref12_Right.f k a0_0 a0_1 a0_2 a0_3 = some r) :
    Calls Tryd.prog 10 #[.agg #[.int .i64 a0_0, .int .i64 a0_1, .int .i64 a0_2, .int .u8 a0_3]] w fun e w' => e = .returned (.bool r) ∧ Below w.heap.size w w' := by
  have hu23 := Tryd.underlying23
  have HB := Aside0.mk (Below.refl w.heap.size w)
  have H : (if a0_0 < 0 then (portreeveref12_Right.j0 k true a0_0 a0_1 a0_2 a0_3) else (if a0_0 > 9 then (portreeveref12_Right.j0 k true a0_0 a0_1 a0_2 a0_3) else (if a0_1 < 0 then (portreeveref12_Right.j0 k true a0_0 a0_1 a0_2 a0_3) else (portreeveref12_Right.j0 k (decide (a0_1 > 5)) a0_0 a0_1 a0_2 a0_3)))) = some r := h
  clear h
  have HC2 := Aside0.mk H
  clear H
  go_enter Tryd.func10, Tryd.ntmps10
  go_upto_region 1 with (first | ((with_reducible refine gate_dst (N := 1) rfl ?_); refine box_event ?hg (N := 1) ?hd (cs := #[.int .i64 a0_0, .int .i64 a0_1, .int .i64 a0_2, .int .u8 a0_3]) (t := 23) ?hr ?_; (case hd => rfl); (case hg => rfl); (case hr => first | (go_simp; done) | (go_simp; rfl)); intro gb162 hg w3 hbox hb; have n0_ := Aside0.mk (below_step (by repeat (first | (with_reducible first | exact HB.out | apply pA | apply pN | apply pD) | exact HB.out)) hb); have n1_ := Aside0.mk (hbox); have n2_ := Aside0.mk ((by rw [hg]; exact (below_size (by repeat (first | (with_reducible first | exact HB.out | apply pA | apply pN | apply pD) | exact HB.out))) : w.heap.size ≤ gb162)); have n3_ := Aside0.mk ((by rw [hg]; exact (below_size (by repeat (first | (with_reducible first | exact HB.out | apply pA | apply pN | apply pD) | exact HB.out))) : w.heap.size ≤ gb162)); clear HB; have HB := n0_; have BK162 := n1_; have GW162 := n2_; have GE162 := n3_; clear n0_ n1_ n2_ n3_; clear hb hbox hg))
  (try simp only [Act.put, List.setIfInBounds_toArray, List.set_cons_zero, List.set_cons_succ])
  go_cut [21] (fun v21 wc => ∃ (kq : Nat) (x21_1 : Bool), v21 = .bool x21_1 ∧ Aside0 (portreeveref12_Right.j0 kq x21_1 a0_0 a0_1 a0_2 a0_3 = some r) ∧ Aside0 (kq ≤ k) ∧ Aside0 (wc.heap[gb162]? = some (.cells #[.int .i64 a0_0, .int .i64 a0_1, .int .i64 a0_2, .int .u8 a0_3] 23 (0, 0))) ∧ Aside0 (Below w.heap.size w wc))
  case first =>
    have H := HC2.out
    clear HC2
    by_cases c4 : a0_0 < 0
    · rw [if_pos c4] at H
      have c4b0 : decide (a0_0 < 0) = true := decide_eq_true c4
      clear c4
      (first | rw [c4b0] | (simp only [i64_w, i32_w]; rw [c4b0]) | skip)
      have H' := Aside0.mk H
      clear H
      have hcz5_0 : w3.cell? ⟨gb162, 0, none⟩ = some (.int .i64 a0_0) := (blk_cell BK162.out 0).trans rfl
      have hcz5_1 : w3.cell? ⟨gb162, 1, none⟩ = some (.int .i64 a0_1) := (blk_cell BK162.out 1).trans rfl
      have hcz5_2 : w3.cell? ⟨gb162, 2, none⟩ = some (.int .i64 a0_2) := (blk_cell BK162.out 2).trans rfl
      have hcz5_3 : w3.cell? ⟨gb162, 3, none⟩ = some (.int .u8 a0_3) := (blk_cell BK162.out 3).trans rfl
      have hfz5_0 := blk_frozen BK162.out 0
      have hfz5_1 := blk_frozen BK162.out 1
      have hfz5_2 := blk_frozen BK162.out 2
      have hfz5_3 := blk_frozen BK162.out 3
      go_wp2
      go_meet
      case rel => exact ⟨_, (true), (by first | rfl | (simp; done) | (simp [*]; done)), H', ⟨by first | omega | exact Nat.le_refl _⟩, ⟨by (with_reducible repeat (first | refine qN ?_ _ | refine qD ?_ | refine qA ?_ _)); exact BK162.out⟩, ⟨by repeat (first | (with_reducible first | exact HB.out | apply pA | apply pN | apply pD | refine pS ?_ GE162.out) | exact HB.out)⟩⟩
    · rw [if_neg c4] at H
      have c4b0 : decide (a0_0 < 0) = false := decide_eq_false c4
      clear c4
      (first | rw [c4b0] | (simp only [i64_w, i32_w]; rw [c4b0]) | skip)
      by_cases c6 : a0_0 > 9
      · rw [if_pos c6] at H
        have c6b0 : decide (9 < a0_0) = true := decide_eq_true c6
        clear c6
        have H' := Aside0.mk H
        clear H
        have hcz7_0 : w3.cell? ⟨gb162, 0, none⟩ = some (.int .i64 a0_0) := (blk_cell BK162.out 0).trans rfl
        have hcz7_1 : w3.cell? ⟨gb162, 1, none⟩ = some (.int .i64 a0_1) := (blk_cell BK162.out 1).trans rfl
        have hcz7_2 : w3.cell? ⟨gb162, 2, none⟩ = some (.int .i64 a0_2) := (blk_cell BK162.out 2).trans rfl
        have hcz7_3 : w3.cell? ⟨gb162, 3, none⟩ = some (.int .u8 a0_3) := (blk_cell BK162.out 3).trans rfl
        have hfz7_0 := blk_frozen BK162.out 0
        have hfz7_1 := blk_frozen BK162.out 1
        have hfz7_2 := blk_frozen BK162.out 2
        have hfz7_3 := blk_frozen BK162.out 3
        go_wp2
        go_meet
        case rel => exact ⟨_, (true), (by first | rfl | (simp; done) | (simp [*]; done)), H', ⟨by first | omega | exact Nat.le_refl _⟩, ⟨by (with_reducible repeat (first | refine qN ?_ _ | refine qD ?_ | refine qA ?_ _)); exact BK162.out⟩, ⟨by repeat (first | (with_reducible first | exact HB.out | apply pA | apply pN | apply pD | refine pS ?_ GE162.out) | exact HB.out)⟩⟩
      · rw [if_neg c6] at H
        have c6b0 : decide (9 < a0_0) = false := decide_eq_false c6
        clear c6
        by_cases c8 : a0_1 < 0
        · rw [if_pos c8] at H
          have c8b0 : decide (a0_1 < 0) = true := decide_eq_true c8
          clear c8
          have H' := Aside0.mk H
          clear H
          have hcz9_0 : w3.cell? ⟨gb162, 0, none⟩ = some (.int .i64 a0_0) := (blk_cell BK162.out 0).trans rfl
          have hcz9_1 : w3.cell? ⟨gb162, 1, none⟩ = some (.int .i64 a0_1) := (blk_cell BK162.out 1).trans rfl
          have hcz9_2 : w3.cell? ⟨gb162, 2, none⟩ = some (.int .i64 a0_2) := (blk_cell BK162.out 2).trans rfl
          have hcz9_3 : w3.cell? ⟨gb162, 3, none⟩ = some (.int .u8 a0_3) := (blk_cell BK162.out 3).trans rfl
          have hfz9_0 := blk_frozen BK162.out 0
          have hfz9_1 := blk_frozen BK162.out 1
          have hfz9_2 := blk_frozen BK162.out 2
          have hfz9_3 := blk_frozen BK162.out 3
          go_wp2
          go_meet
          case rel => exact ⟨_, (true), (by first | rfl | (simp; done) | (simp [*]; done)), H', ⟨by first | omega | exact Nat.le_refl _⟩, ⟨by (with_reducible repeat (first | refine qN ?_ _ | refine qD ?_ | refine qA ?_ _)); exact BK162.out⟩, ⟨by repeat (first | (with_reducible first | exact HB.out | apply pA | apply pN | apply pD | refine pS ?_ GE162.out) | exact HB.out)⟩⟩
        · rw [if_neg c8] at H
          have c8b0 : decide (a0_1 < 0) = false := decide_eq_false c8
          clear c8
          have H' := Aside0.mk H
          clear H
          have hcz10_0 : w3.cell? ⟨gb162, 0, none⟩ = some (.int .i64 a0_0) := (blk_cell BK162.out 0).trans rfl
          have hcz10_1 : w3.cell? ⟨gb162, 1, none⟩ = some (.int .i64 a0_1) := (blk_cell BK162.out 1).trans rfl
          have hcz10_2 : w3.cell? ⟨gb162, 2, none⟩ = some (.int .i64 a0_2) := (blk_cell BK162.out 2).trans rfl
          have hcz10_3 : w3.cell? ⟨gb162, 3, none⟩ = some (.int .u8 a0_3) := (blk_cell BK162.out 3).trans rfl
          have hfz10_0 := blk_frozen BK162.out 0
          have hfz10_1 := blk_frozen BK162.out 1
          have hfz10_2 := blk_frozen BK162.out 2
          have hfz10_3 := blk_frozen BK162.out 3
          go_wp2
          go_meet
          case rel => exact ⟨_, (decide (a0_1 > 5)), (by first | rfl | (simp; done) | (simp [*]; done)), H', ⟨by first | omega | exact Nat.le_refl _⟩, ⟨by (with_reducible repeat (first | refine qN ?_ _ | refine qD ?_ | refine qA ?_ _)); exact BK162.out⟩, ⟨by repeat (first | (with_reducible first | exact HB.out | apply pA | apply pN | apply pD | refine pS ?_ GE162.out) | exact HB.out)⟩⟩
  case rest =>
    clear HC2
    try clear c1
    try clear p2
    try clear c4
    try clear c4b0
    try clear c6
    try clear c6b0
    try clear c8
    try clear c8b0
    try clear c10
    try clear hcz10_0
    try clear hcz10_1
    try clear hcz10_2
    try clear hcz10_3
    try clear hcz5_0
    try clear hcz5_1
    try clear hcz5_2
    try clear hcz5_3
    try clear hcz7_0
    try clear hcz7_1
    try clear hcz7_2
    try clear hcz7_3
    try clear hcz9_0
    try clear hcz9_1
    try clear hcz9_2
    try clear hcz9_3
    try clear hfz10_0
    try clear hfz10_1
    try clear hfz10_2
    try clear hfz10_3
    try clear hfz5_0
    try clear hfz5_1
    try clear hfz5_2
    try clear hfz5_3
    try clear hfz7_0
    try clear hfz7_1
    try clear hfz7_2
    try clear hfz7_3
    try clear hfz9_0
    try clear hfz9_1
    try clear hfz9_2
    try clear hfz9_3
    obtain ⟨kq, x21_1, rfl, HA, HJ1, BK162, HB⟩ := hcut
    cases kq with
    | zero => exact absurd HA.out (by simp [portreeveref12_Right.j0])
    | succ kj1 =>
      have H := HA.out
      clear HA
      simp only [portreeveref12_Right.j0] at H
      by_cases c11 : x21_1 = true
      · subst c11
        have H1 : (some false) = some r := by rw [if_pos rfl] at H; exact H
        clear H
        have H := H1
        clear H1
        obtain rfl := Option.some.inj H
        go_wp2
        go_ret
        exact ⟨by first | rfl | (simp [errW_none, errW_some] <;> rfl) | (simp [*, errW_none, errW_some] <;> rfl), by repeat (first | (with_reducible first | exact HB.out | apply pA | apply pN | apply pD | refine pS ?_ GE162.out) | exact HB.out)⟩
      · replace c11 := Bool.eq_false_iff.mpr c11
        subst c11
        have H1 : ((portreeveref11_Timed.f a0_0).bind fun t163 => (if t163 = true then (if a0_2 ≥ 1 then (if a0_2 ≤ 3 then (some true) else (some false)) else (some false)) else (some (a0_2 == 0)))) = some r := by rw [if_neg (show ¬ (false = true) by decide)] at H; exact H
        clear H
        have H := H1
        clear H1
        replace H := Option.bind_eq_some_iff.mp H
        obtain ⟨t163, A120, H⟩ := H
        replace H : (if t163 = true then (if a0_2 ≥ 1 then (if a0_2 ≤ 3 then (some true) else (some false)) else (some false)) else (some (a0_2 == 0))) = some r := H
        have A12 := Aside0.mk A120
        clear A120
        by_cases c13 : t163 = true
        · subst c13
          have H1 : (if a0_2 ≥ 1 then (if a0_2 ≤ 3 then (some true) else (some false)) else (some false)) = some r := by rw [if_pos rfl] at H; exact H
          clear H
          have H := H1
          clear H1
          by_cases c14 : a0_2 ≥ 1
          · rw [if_pos c14] at H
            have c14b0 : decide (1 ≤ a0_2) = true := decide_eq_true c14
            clear c14
            by_cases c15 : a0_2 ≤ 3
            · rw [if_pos c15] at H
              have c15b0 : decide (a0_2 ≤ 3) = true := decide_eq_true c15
              clear c15
              obtain rfl := Option.some.inj H
              have hcz16_0 : wc.cell? ⟨gb162, 0, none⟩ = some (.int .i64 a0_0) := (blk_cell BK162.out 0).trans rfl
              have hcz16_1 : wc.cell? ⟨gb162, 1, none⟩ = some (.int .i64 a0_1) := (blk_cell BK162.out 1).trans rfl
              have hcz16_2 : wc.cell? ⟨gb162, 2, none⟩ = some (.int .i64 a0_2) := (blk_cell BK162.out 2).trans rfl
              have hcz16_3 : wc.cell? ⟨gb162, 3, none⟩ = some (.int .u8 a0_3) := (blk_cell BK162.out 3).trans rfl
              have hfz16_0 := blk_frozen BK162.out 0
              have hfz16_1 := blk_frozen BK162.out 1
              have hfz16_2 := blk_frozen BK162.out 2
              have hfz16_3 := blk_frozen BK162.out 3
              go_wp2_with (first | ((with_reducible refine gate_callee (f := 21) rfl ?_); refine goesL_ (some 24) rfl rfl Tryd.func21 (by kernel_rfl) rfl #[.int .i64 a0_0] rfl (by (try simp only [List.map_toArray, List.map_cons, List.map_nil]); first | done | rfl | (simp only [List.length_drop, List.length_take]; rfl)) ?_; (with_reducible refine (portreeveref11_Timed.calls a0_0 true _ A12.out).mono ?_); rintro e w' ⟨rfl, ⟨nd, rfl⟩⟩; refine ⟨_, rfl, ?_⟩))
              go_ret
              exact ⟨by first | rfl | (simp [errW_none, errW_some] <;> rfl) | (simp [*, errW_none, errW_some] <;> rfl), by repeat (first | (with_reducible first | exact HB.out | apply pA | apply pN | apply pD | refine pS ?_ GE162.out) | exact HB.out)⟩
            · rw [if_neg c15] at H
              have c15b0 : decide (a0_2 ≤ 3) = false := decide_eq_false c15
              clear c15
              obtain rfl := Option.some.inj H
              have hcz17_0 : wc.cell? ⟨gb162, 0, none⟩ = some (.int .i64 a0_0) := (blk_cell BK162.out 0).trans rfl
              have hcz17_1 : wc.cell? ⟨gb162, 1, none⟩ = some (.int .i64 a0_1) := (blk_cell BK162.out 1).trans rfl
              have hcz17_2 : wc.cell? ⟨gb162, 2, none⟩ = some (.int .i64 a0_2) := (blk_cell BK162.out 2).trans rfl
              have hcz17_3 : wc.cell? ⟨gb162, 3, none⟩ = some (.int .u8 a0_3) := (blk_cell BK162.out 3).trans rfl
              have hfz17_0 := blk_frozen BK162.out 0
              have hfz17_1 := blk_frozen BK162.out 1
              have hfz17_2 := blk_frozen BK162.out 2
              have hfz17_3 := blk_frozen BK162.out 3
              go_wp2_with (first | ((with_reducible refine gate_callee (f := 21) rfl ?_); refine goesL_ (some 24) rfl rfl Tryd.func21 (by kernel_rfl) rfl #[.int .i64 a0_0] rfl (by (try simp only [List.map_toArray, List.map_cons, List.map_nil]); first | done | rfl | (simp only [List.length_drop, List.length_take]; rfl)) ?_; (with_reducible refine (portreeveref11_Timed.calls a0_0 true _ A12.out).mono ?_); rintro e w' ⟨rfl, ⟨nd, rfl⟩⟩; refine ⟨_, rfl, ?_⟩))
              go_ret
              exact ⟨by first | rfl | (simp [errW_none, errW_some] <;> rfl) | (simp [*, errW_none, errW_some] <;> rfl), by repeat (first | (with_reducible first | exact HB.out | apply pA | apply pN | apply pD | refine pS ?_ GE162.out) | exact HB.out)⟩
          · rw [if_neg c14] at H
            have c14b0 : decide (1 ≤ a0_2) = false := decide_eq_false c14
            clear c14
            obtain rfl := Option.some.inj H
            have hcz18_0 : wc.cell? ⟨gb162, 0, none⟩ = some (.int .i64 a0_0) := (blk_cell BK162.out 0).trans rfl
            have hcz18_1 : wc.cell? ⟨gb162, 1, none⟩ = some (.int .i64 a0_1) := (blk_cell BK162.out 1).trans rfl
            have hcz18_2 : wc.cell? ⟨gb162, 2, none⟩ = some (.int .i64 a0_2) := (blk_cell BK162.out 2).trans rfl
            have hcz18_3 : wc.cell? ⟨gb162, 3, none⟩ = some (.int .u8 a0_3) := (blk_cell BK162.out 3).trans rfl
            have hfz18_0 := blk_frozen BK162.out 0
            have hfz18_1 := blk_frozen BK162.out 1
            have hfz18_2 := blk_frozen BK162.out 2
            have hfz18_3 := blk_frozen BK162.out 3
            go_wp2_with (first | ((with_reducible refine gate_callee (f := 21) rfl ?_); refine goesL_ (some 24) rfl rfl Tryd.func21 (by kernel_rfl) rfl #[.int .i64 a0_0] rfl (by (try simp only [List.map_toArray, List.map_cons, List.map_nil]); first | done | rfl | (simp only [List.length_drop, List.length_take]; rfl)) ?_; (with_reducible refine (portreeveref11_Timed.calls a0_0 true _ A12.out).mono ?_); rintro e w' ⟨rfl, ⟨nd, rfl⟩⟩; refine ⟨_, rfl, ?_⟩))
            go_ret
            exact ⟨by first | rfl | (simp [errW_none, errW_some] <;> rfl) | (simp [*, errW_none, errW_some] <;> rfl), by repeat (first | (with_reducible first | exact HB.out | apply pA | apply pN | apply pD | refine pS ?_ GE162.out) | exact HB.out)⟩
        · replace c13 := Bool.eq_false_iff.mpr c13
          subst c13
          have H1 : (some (a0_2 == 0)) = some r := by rw [if_neg (show ¬ (false = true) by decide)] at H; exact H
          clear H
          have H := H1
          clear H1
          obtain rfl := Option.some.inj H
          have hcz19_0 : wc.cell? ⟨gb162, 0, none⟩ = some (.int .i64 a0_0) := (blk_cell BK162.out 0).trans rfl
          have hcz19_1 : wc.cell? ⟨gb162, 1, none⟩ = some (.int .i64 a0_1) := (blk_cell BK162.out 1).trans rfl
          have hcz19_2 : wc.cell? ⟨gb162, 2, none⟩ = some (.int .i64 a0_2) := (blk_cell BK162.out 2).trans rfl
          have hcz19_3 : wc.cell? ⟨gb162, 3, none⟩ = some (.int .u8 a0_3) := (blk_cell BK162.out 3).trans rfl
          have hfz19_0 := blk_frozen BK162.out 0
          have hfz19_1 := blk_frozen BK162.out 1
          have hfz19_2 := blk_frozen BK162.out 2
          have hfz19_3 := blk_frozen BK162.out 3
          go_wp2_with (first | ((with_reducible refine gate_callee (f := 21) rfl ?_); refine goesL_ (some 24) rfl rfl Tryd.func21 (by kernel_rfl) rfl #[.int .i64 a0_0] rfl (by (try simp only [List.map_toArray, List.map_cons, List.map_nil]); first | done | rfl | (simp only [List.length_drop, List.length_take]; rfl)) ?_; (with_reducible refine (portreeveref11_Timed.calls a0_0 false _ A12.out).mono ?_); rintro e w' ⟨rfl, ⟨nd, rfl⟩⟩; refine ⟨_, rfl, ?_⟩))
          go_ret
          exact ⟨by first | rfl | (simp [errW_none, errW_some] <;> rfl) | (simp [*, errW_none, errW_some] <;> rfl), by repeat (first | (with_reducible first | exact HB.out | apply pA | apply pN | apply pD | refine pS ?_ GE162.out) | exact HB.out)⟩

/-! ### portreeveref11_Has: function 20 -/
def portreeveref11_Has.l0 : Nat → List Int → Int → Int → Option (Bool)
  | 0, _, _, _ => none
  | k + 1, x0, x1, x5 => if x5 < (x0.length : Int) then (if 0 ≤ x5 then (if (rd x0 x5) = x1 then (some true) else (portreeveref11_Has.l0 k x0 x1 (wrap64 (x5 + 1)))) else (none)) else (some false)
def portreeveref11_Has.f (k : Nat) (l0 : List Int) (a1 : Int) : Option (Bool) := portreeveref11_Has.l0 k l0 a1 0
theorem portreeveref11_Has.mono_l : ∀ k, (∀ y0 y1 y2, LeO (portreeveref11_Has.l0 k y0 y1 y2) (portreeveref11_Has.l0 (k + 1) y0 y1 y2))
  | 0 => fun _ _ _ r h => by simp [portreeveref11_Has.l0] at h
  | k + 1 => by
    have ih0 := portreeveref11_Has.mono_l k
    · intro y0 y1 y2
      unfold portreeveref11_Has.l0
      repeat' first
      | (with_reducible exact ih0 _ _ _)
      | (with_reducible exact LeO.refl _)
      | (with_reducible exact LeO.none _)
      | (with_reducible refine LeO.ite ?_ ?_)
      | (with_reducible refine LeO.bind ?_ (fun _ => ?_))
      | exact ih0 _ _ _
      | exact LeO.none _
      | refine LeO.ite ?_ ?_
      | refine LeO.bind ?_ (fun _ => ?_)
theorem portreeveref11_Has.mono : ∀ a0 a1 k, LeO (portreeveref11_Has.f k a0 a1) (portreeveref11_Has.f (k + 1) a0 a1) := by
  intro a0 a1 k
  have ih0 := portreeveref11_Has.mono_l k
  unfold portreeveref11_Has.f
  repeat' first
      | (with_reducible exact ih0 _ _ _)
      | (with_reducible exact LeO.refl _)
      | (with_reducible exact LeO.none _)
      | (with_reducible refine LeO.ite ?_ ?_)
      | (with_reducible refine LeO.bind ?_ (fun _ => ?_))
      | exact ih0 _ _ _
      | exact LeO.none _
      | refine LeO.ite ?_ ?_
      | refine LeO.bind ?_ (fun _ => ?_)
set_option maxHeartbeats 8000000 in
set_option maxRecDepth 100000 in
theorem portreeveref11_Has.calls (k : Nat) (A0 : Option Addr) (c0 : Nat) (l0 : List Int) (a1 : Int) (r : Bool) (w : World) (hr0 : Kd.C (Kd.int .i64) w A0 l0.length l0) (hc0 : l0.length ≤ c0) (h : portreeveref11_Has.f k l0 a1 = some r) :
    Calls Tryd.prog 20 #[.slice A0 l0.length c0, .int .i64 a1] w fun e w' => e = .returned (.bool r) ∧ Drawn0 w w' := by
  have HR0 := Aside0.mk hr0
  have HC0 := Aside0.mk hc0
  clear hr0 hc0
  have H : (portreeveref11_Has.l0 k l0 a1 0) = some r := h
  clear h
  have H' := Aside0.mk H
  clear H
  go_enter Tryd.func20, Tryd.ntmps20
  go_wp2
  go_loopg [5] k (fun kq v5 w' => ∃ (x5_1 : Int), v5 = .int .i64 x5_1 ∧ Aside0 (portreeveref11_Has.l0 kq l0 a1 x5_1 = some r) ∧ Aside0 (kq ≤ k) ∧ Drawn0 w w')
  case atStart => exact ⟨(0), (by first | rfl | (simp; done) | (simp [*]; done)), H', ⟨Nat.le_refl _⟩, by repeat (first | exact Drawn0.refl _ | apply Drawn0.step)⟩
  case round =>
    clear H'
    try clear c2
    try clear p2
    obtain ⟨x5_1, rfl, HA, HK1, ⟨m1, rfl⟩⟩ := hrel
    cases gk with
    | zero => exact absurd HA.out (by simp [portreeveref11_Has.l0])
    | succ k1 =>
      have H := HA.out
      clear HA
      simp only [portreeveref11_Has.l0] at H
      by_cases c3 : x5_1 < (l0.length : Int)
      · rw [if_pos c3] at H
        have c3b0 : decide (x5_1 < (l0.length : Int)) = true := decide_eq_true c3
        clear c3
        by_cases c4 : 0 ≤ x5_1
        · rw [if_pos c4] at H
          have c4b0 : decide (0 ≤ x5_1) = true := decide_eq_true c4
          clear c4
          by_cases c5 : (rd l0 x5_1) = a1
          · rw [if_pos c5] at H
            have c5b0 : ((rd l0 x5_1) == a1) = true := beq_iff_eq.mpr c5
            have c5b1 : ((rd l0 x5_1) != a1) = false := bne_eq_false_iff_eq.mpr c5
            clear c5
            obtain rfl := Option.some.inj H
            have p164 : 0 ≤ (x5_1 : Int) := of_decide_eq_true (by first | (with_reducible assumption) | assumption)
            have q164 : x5_1 < (l0.length : Int) := of_decide_eq_true (by first | (with_reducible assumption) | assumption)
            obtain ⟨ad164, e164, hx164_0⟩ := Kd.at_int HR0.out x5_1 p164 q164
            cases e164
            replace p164 := eq_true p164
            replace q164 := eq_true q164
            go_wp2
            go_ret
            exact ⟨by first | rfl | (simp; done) | (simp [*]; done), by repeat (first | exact Drawn0.refl _ | apply Drawn0.step)⟩
          · rw [if_neg c5] at H
            have c5b0 : ((rd l0 x5_1) == a1) = false := beq_eq_false_iff_ne.mpr c5
            have c5b1 : ((rd l0 x5_1) != a1) = true := bne_iff_ne.mpr c5
            have H' := Aside0.mk H
            clear H
            have p164 : 0 ≤ (x5_1 : Int) := of_decide_eq_true (by first | (with_reducible assumption) | assumption)
            have q164 : x5_1 < (l0.length : Int) := of_decide_eq_true (by first | (with_reducible assumption) | assumption)
            obtain ⟨ad164, e164, hx164_0⟩ := Kd.at_int HR0.out x5_1 p164 q164
            cases e164
            replace p164 := eq_true p164
            replace q164 := eq_true q164
            go_wp2
            go_roundg k1
            case measure => have := HK1.out; omega
            case rel => exact ⟨(wrap64 (x5_1 + 1)), (by first | rfl | (simp; done) | (simp [*]; done)), H', ⟨by have := HK1.out; omega⟩, by repeat (first | exact Drawn0.refl _ | apply Drawn0.step)⟩
        · rw [if_neg c4] at H
          exact absurd H (by simp)
      · rw [if_neg c3] at H
        have c3b0 : decide (x5_1 < (l0.length : Int)) = false := decide_eq_false c3
        clear c3
        obtain rfl := Option.some.inj H
        go_wp2
        go_ret
        exact ⟨by first | rfl | (simp; done) | (simp [*]; done), by repeat (first | exact Drawn0.refl _ | apply Drawn0.step)⟩

/-! ### portreeveref11_never: function 32 -/
def portreeveref11_never.f (a0 : Int) : Option (List Int × Int × Bool) := some (([] : List Int), a0, false)
set_option maxHeartbeats 8000000 in
set_option maxRecDepth 100000 in
theorem portreeveref11_never.calls (a0 : Int) (r1 : List Int) (r2 : Int) (r3 : Bool) (w : World) (h : portreeveref11_never.f a0 = some (r1, r2, r3)) :
    Calls Tryd.prog 32 #[.int .i64 a0] w fun e w' => ∃ v0_ : Value, e = .returned (.tuple #[v0_, .int .i64 r2, .bool r3]) ∧ Kd.R (Kd.int .i64) 3 w' w.heap.size (fun _ => True) v0_ r1 ∧ Below w.heap.size w w' := by
  have HB := Aside0.mk (Below.refl w.heap.size w)
  have H : (some (([] : List Int), a0, false)) = some (r1, r2, r3) := h
  clear h
  simp only [Option.some.injEq, Prod.mk.injEq] at H
  obtain ⟨rfl, rfl, rfl⟩ := H
  go_enter Tryd.func32, Tryd.ntmps32
  go_wp2
  go_ret3
  exact ⟨_, by first | rfl | (simp [errW_none, errW_some] <;> rfl) | (simp [*, errW_none, errW_some] <;> rfl), by first | exact Kd.R_nil _ _ _ _ _ | exact Kd.N_nil _ _ _ _ _ | exact Kd.V_nil _ _ _ _ _ | exact Kd.Q_nil _ _ _ _ _ | exact Kd.S_nil _ _ _ _ _, by repeat (first | (with_reducible first | exact HB.out | apply pA | apply pN | apply pD) | exact HB.out)⟩

end Go.Proofs.YtoenogjedmnnlaaDoor.Q

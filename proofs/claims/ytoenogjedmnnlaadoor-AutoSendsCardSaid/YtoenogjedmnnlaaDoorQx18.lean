-- written by this session's own program (wip/tools/myprint.py), over the kit's print
import Derived.Test.YtoenogjedmnnlaaDoorQx0
import Derived.Test.YtoenogjedmnnlaaDoorQx2
import Derived.Test.YtoenogjedmnnlaaDoorQx4
import Derived.Test.YtoenogjedmnnlaaDoorQx5
import Derived.Test.YtoenogjedmnnlaaDoorQx6
namespace Go.Proofs.YtoenogjedmnnlaaDoor.Q
open Go.RowKit Go.Proofs.YtoenogjedmnnlaaDoorW.PrintWords Go.Proofs.YtoenogjedmnnlaaDoorW.PrintLast Go.Proofs.YtoenogjedmnnlaaDoorW.PrintMore
open Go.Proofs.YtoenogjedmnnlaaDoorV Go.Proofs.YtoenogjedmnnlaaDoorG
attribute [local go_sem] max2_int min2_int max_two min_two max_three min_three max_four min_four   -- for this text's walks alone
set_option linter.unusedVariables false
set_option linter.unusedSimpArgs false

/-! ### portreevelaw12_AutoSends: function 8 -/
mutual
def portreevelaw12_AutoSends.j0 : Nat → Bool → Bool → Int → Int → Int → Int → Int → Int → Option (Bool)
  | 0, _, _, _, _, _, _, _, _ => none
  | k + 1, x1, x5, x8, x9, x820000, x820001, x820002, x820003 => portreevelaw12_AutoSends.l0 k x1 x5 x8 x9 1 0 0 x820000 x820001 x820002 x820003
def portreevelaw12_AutoSends.l0 : Nat → Bool → Bool → Int → Int → Int → Int → Int → Int → Int → Int → Int → Option (Bool)
  | 0, _, _, _, _, _, _, _, _, _, _, _ => none
  | k + 1, x1, x5, x8, x9, x13, x14, x15, x820000, x820001, x820002, x820003 => (auto_Bound.f).bind fun t829 => (if x15 < t829 then ((auto_Tick.f x820000 x820001 x820002 x820003).bind fun bt830 => ((portreeveref11_Has.f k bt830.2.2.2.2 7).bind fun t838 => (if t838 = true then (portreevelaw12_AutoSends.j2 k x1 x5 x8 x9 x13 x14 x15 bt830.2.2.2.2 true bt830.1 bt830.2.1 bt830.2.2.1 bt830.2.2.2.1) else ((portreeveref11_Has.f k bt830.2.2.2.2 10).bind fun t839 => (portreevelaw12_AutoSends.j2 k x1 x5 x8 x9 x13 x14 x15 bt830.2.2.2.2 t839 bt830.1 bt830.2.1 bt830.2.2.1 bt830.2.2.2.1))))) else (if x5 = true then (if x8 = 0 then (if x13 = x9 then (if x14 = 1 then (if x1 = true then (if x820000 = 2 then (some true) else (some false)) else (some (x820000 == 3))) else (some false)) else (some false)) else (some false)) else (some false)))
def portreevelaw12_AutoSends.j2 : Nat → Bool → Bool → Int → Int → Int → Int → Int → List Int → Bool → Int → Int → Int → Int → Option (Bool)
  | 0, _, _, _, _, _, _, _, _, _, _, _, _, _ => none
  | k + 1, x1, x5, x8, x9, x13, x14, x15, x17, x51, x838000, x838001, x838002, x838003 => if x51 = true then (portreevelaw12_AutoSends.j3 k x1 x5 x8 x9 (wrap64 (x13 + 1)) x14 x15 x17 x838000 x838001 x838002 x838003) else (portreevelaw12_AutoSends.j3 k x1 x5 x8 x9 x13 x14 x15 x17 x838000 x838001 x838002 x838003)
def portreevelaw12_AutoSends.j3 : Nat → Bool → Bool → Int → Int → Int → Int → Int → List Int → Int → Int → Int → Int → Option (Bool)
  | 0, _, _, _, _, _, _, _, _, _, _, _, _ => none
  | k + 1, x1, x5, x8, x9, x13, x14, x15, x17, x838000, x838001, x838002, x838003 => (portreeveref11_Has.f k x17 4).bind fun t840 => (if t840 = true then (portreevelaw12_AutoSends.l0 k x1 x5 x8 x9 x13 (wrap64 (x14 + 1)) (wrap64 (x15 + 1)) x838000 x838001 x838002 x838003) else (portreevelaw12_AutoSends.l0 k x1 x5 x8 x9 x13 x14 (wrap64 (x15 + 1)) x838000 x838001 x838002 x838003))
end
def portreevelaw12_AutoSends.f (k : Nat) (a0 : Int) (a1 : Bool) : Option (Bool) := (portreevelaw12_shown.f k).bind fun t810 => ((auto_Do.f 1 0 0 a0 0).bind fun bt811 => (if a1 = true then ((auto_Do.f bt811.1 bt811.2.1 bt811.2.2.1 bt811.2.2.2.1 3).bind fun bt820 => (if bt820.2.2.2.2.2 = 0 then (portreevelaw12_AutoSends.j0 k a1 t810 bt811.2.2.2.2.2 2 bt820.1 bt820.2.1 bt820.2.2.1 bt820.2.2.2.1) else (some false))) else (portreevelaw12_AutoSends.j0 k a1 t810 bt811.2.2.2.2.2 5 bt811.1 bt811.2.1 bt811.2.2.1 bt811.2.2.2.1)))
theorem portreevelaw12_AutoSends.mono_l : ∀ k, (∀ y0 y1 y2 y3 y4 y5 y6 y7, LeO (portreevelaw12_AutoSends.j0 k y0 y1 y2 y3 y4 y5 y6 y7) (portreevelaw12_AutoSends.j0 (k + 1) y0 y1 y2 y3 y4 y5 y6 y7)) ∧ (∀ y0 y1 y2 y3 y4 y5 y6 y7 y8 y9 y10, LeO (portreevelaw12_AutoSends.l0 k y0 y1 y2 y3 y4 y5 y6 y7 y8 y9 y10) (portreevelaw12_AutoSends.l0 (k + 1) y0 y1 y2 y3 y4 y5 y6 y7 y8 y9 y10)) ∧ (∀ y0 y1 y2 y3 y4 y5 y6 y7 y8 y9 y10 y11 y12, LeO (portreevelaw12_AutoSends.j2 k y0 y1 y2 y3 y4 y5 y6 y7 y8 y9 y10 y11 y12) (portreevelaw12_AutoSends.j2 (k + 1) y0 y1 y2 y3 y4 y5 y6 y7 y8 y9 y10 y11 y12)) ∧ (∀ y0 y1 y2 y3 y4 y5 y6 y7 y8 y9 y10 y11, LeO (portreevelaw12_AutoSends.j3 k y0 y1 y2 y3 y4 y5 y6 y7 y8 y9 y10 y11) (portreevelaw12_AutoSends.j3 (k + 1) y0 y1 y2 y3 y4 y5 y6 y7 y8 y9 y10 y11))
  | 0 => ⟨fun _ _ _ _ _ _ _ _ r h => by simp [portreevelaw12_AutoSends.j0] at h, fun _ _ _ _ _ _ _ _ _ _ _ r h => by simp [portreevelaw12_AutoSends.l0] at h, fun _ _ _ _ _ _ _ _ _ _ _ _ _ r h => by simp [portreevelaw12_AutoSends.j2] at h, fun _ _ _ _ _ _ _ _ _ _ _ _ r h => by simp [portreevelaw12_AutoSends.j3] at h⟩
  | k + 1 => by
    obtain ⟨ih0, ih1, ih2, ih3⟩ := portreevelaw12_AutoSends.mono_l k
    refine ⟨?_, ?_, ?_, ?_⟩
    · intro y0 y1 y2 y3 y4 y5 y6 y7
      unfold portreevelaw12_AutoSends.j0
      repeat' first
      | (with_reducible exact ih0 _ _ _ _ _ _ _ _)
      | (with_reducible exact ih1 _ _ _ _ _ _ _ _ _ _ _)
      | (with_reducible exact ih2 _ _ _ _ _ _ _ _ _ _ _ _ _)
      | (with_reducible exact ih3 _ _ _ _ _ _ _ _ _ _ _ _)
      | (with_reducible exact portreevelaw12_shown.mono _)
      | (with_reducible exact portreeveref11_Has.mono _ _ _)
      | (with_reducible exact LeO.refl _)
      | (with_reducible exact LeO.none _)
      | (with_reducible refine LeO.ite ?_ ?_)
      | (with_reducible refine LeO.bind ?_ (fun _ => ?_))
      | exact ih0 _ _ _ _ _ _ _ _
      | exact ih1 _ _ _ _ _ _ _ _ _ _ _
      | exact ih2 _ _ _ _ _ _ _ _ _ _ _ _ _
      | exact ih3 _ _ _ _ _ _ _ _ _ _ _ _
      | exact portreevelaw12_shown.mono _
      | exact portreeveref11_Has.mono _ _ _
      | exact LeO.none _
      | refine LeO.ite ?_ ?_
      | refine LeO.bind ?_ (fun _ => ?_)
    · intro y0 y1 y2 y3 y4 y5 y6 y7 y8 y9 y10
      unfold portreevelaw12_AutoSends.l0
      repeat' first
      | (with_reducible exact ih0 _ _ _ _ _ _ _ _)
      | (with_reducible exact ih1 _ _ _ _ _ _ _ _ _ _ _)
      | (with_reducible exact ih2 _ _ _ _ _ _ _ _ _ _ _ _ _)
      | (with_reducible exact ih3 _ _ _ _ _ _ _ _ _ _ _ _)
      | (with_reducible exact portreevelaw12_shown.mono _)
      | (with_reducible exact portreeveref11_Has.mono _ _ _)
      | (with_reducible exact LeO.refl _)
      | (with_reducible exact LeO.none _)
      | (with_reducible refine LeO.ite ?_ ?_)
      | (with_reducible refine LeO.bind ?_ (fun _ => ?_))
      | exact ih0 _ _ _ _ _ _ _ _
      | exact ih1 _ _ _ _ _ _ _ _ _ _ _
      | exact ih2 _ _ _ _ _ _ _ _ _ _ _ _ _
      | exact ih3 _ _ _ _ _ _ _ _ _ _ _ _
      | exact portreevelaw12_shown.mono _
      | exact portreeveref11_Has.mono _ _ _
      | exact LeO.none _
      | refine LeO.ite ?_ ?_
      | refine LeO.bind ?_ (fun _ => ?_)
    · intro y0 y1 y2 y3 y4 y5 y6 y7 y8 y9 y10 y11 y12
      unfold portreevelaw12_AutoSends.j2
      repeat' first
      | (with_reducible exact ih0 _ _ _ _ _ _ _ _)
      | (with_reducible exact ih1 _ _ _ _ _ _ _ _ _ _ _)
      | (with_reducible exact ih2 _ _ _ _ _ _ _ _ _ _ _ _ _)
      | (with_reducible exact ih3 _ _ _ _ _ _ _ _ _ _ _ _)
      | (with_reducible exact portreevelaw12_shown.mono _)
      | (with_reducible exact portreeveref11_Has.mono _ _ _)
      | (with_reducible exact LeO.refl _)
      | (with_reducible exact LeO.none _)
      | (with_reducible refine LeO.ite ?_ ?_)
      | (with_reducible refine LeO.bind ?_ (fun _ => ?_))
      | exact ih0 _ _ _ _ _ _ _ _
      | exact ih1 _ _ _ _ _ _ _ _ _ _ _
      | exact ih2 _ _ _ _ _ _ _ _ _ _ _ _ _
      | exact ih3 _ _ _ _ _ _ _ _ _ _ _ _
      | exact portreevelaw12_shown.mono _
      | exact portreeveref11_Has.mono _ _ _
      | exact LeO.none _
      | refine LeO.ite ?_ ?_
      | refine LeO.bind ?_ (fun _ => ?_)
    · intro y0 y1 y2 y3 y4 y5 y6 y7 y8 y9 y10 y11
      unfold portreevelaw12_AutoSends.j3
      repeat' first
      | (with_reducible exact ih0 _ _ _ _ _ _ _ _)
      | (with_reducible exact ih1 _ _ _ _ _ _ _ _ _ _ _)
      | (with_reducible exact ih2 _ _ _ _ _ _ _ _ _ _ _ _ _)
      | (with_reducible exact ih3 _ _ _ _ _ _ _ _ _ _ _ _)
      | (with_reducible exact portreevelaw12_shown.mono _)
      | (with_reducible exact portreeveref11_Has.mono _ _ _)
      | (with_reducible exact LeO.refl _)
      | (with_reducible exact LeO.none _)
      | (with_reducible refine LeO.ite ?_ ?_)
      | (with_reducible refine LeO.bind ?_ (fun _ => ?_))
      | exact ih0 _ _ _ _ _ _ _ _
      | exact ih1 _ _ _ _ _ _ _ _ _ _ _
      | exact ih2 _ _ _ _ _ _ _ _ _ _ _ _ _
      | exact ih3 _ _ _ _ _ _ _ _ _ _ _ _
      | exact portreevelaw12_shown.mono _
      | exact portreeveref11_Has.mono _ _ _
      | exact LeO.none _
      | refine LeO.ite ?_ ?_
      | refine LeO.bind ?_ (fun _ => ?_)
theorem portreevelaw12_AutoSends.mono : ∀ a0 a1 k, LeO (portreevelaw12_AutoSends.f k a0 a1) (portreevelaw12_AutoSends.f (k + 1) a0 a1) := by
  intro a0 a1 k
  obtain ⟨ih0, ih1, ih2, ih3⟩ := portreevelaw12_AutoSends.mono_l k
  unfold portreevelaw12_AutoSends.f
  repeat' first
      | (with_reducible exact ih0 _ _ _ _ _ _ _ _)
      | (with_reducible exact ih1 _ _ _ _ _ _ _ _ _ _ _)
      | (with_reducible exact ih2 _ _ _ _ _ _ _ _ _ _ _ _ _)
      | (with_reducible exact ih3 _ _ _ _ _ _ _ _ _ _ _ _)
      | (with_reducible exact portreevelaw12_shown.mono _)
      | (with_reducible exact portreeveref11_Has.mono _ _ _)
      | (with_reducible exact LeO.refl _)
      | (with_reducible exact LeO.none _)
      | (with_reducible refine LeO.ite ?_ ?_)
      | (with_reducible refine LeO.bind ?_ (fun _ => ?_))
      | exact ih0 _ _ _ _ _ _ _ _
      | exact ih1 _ _ _ _ _ _ _ _ _ _ _
      | exact ih2 _ _ _ _ _ _ _ _ _ _ _ _ _
      | exact ih3 _ _ _ _ _ _ _ _ _ _ _ _
      | exact portreevelaw12_shown.mono _
      | exact portreeveref11_Has.mono _ _ _
      | exact LeO.none _
      | refine LeO.ite ?_ ?_
      | refine LeO.bind ?_ (fun _ => ?_)
set_option maxHeartbeats 8000000 in
set_option maxRecDepth 100000 in
theorem portreevelaw12_AutoSends.calls (k : Nat) (a0 : Int) (a1 : Bool) (r : Bool) (w : World) (hlaw_ : Aside0 (r = true)) (hgl : Gl w) (h : portreevelaw12_AutoSends.f k a0 a1 = some r) :
    Calls Tryd.prog 8 #[.int .u8 a0, .bool a1] w fun e w' => e = .returned (.bool r) ∧ Below w.heap.size w w' := by
  have hu23 := Tryd.underlying23
  have HB := Aside0.mk (Below.refl w.heap.size w)
  have HGL := Aside0.mk hgl
  clear hgl
  have H : ((portreevelaw12_shown.f k).bind fun t810 => ((auto_Do.f 1 0 0 a0 0).bind fun bt811 => (if a1 = true then ((auto_Do.f bt811.1 bt811.2.1 bt811.2.2.1 bt811.2.2.2.1 3).bind fun bt820 => (if bt820.2.2.2.2.2 = 0 then (portreevelaw12_AutoSends.j0 k a1 t810 bt811.2.2.2.2.2 2 bt820.1 bt820.2.1 bt820.2.2.1 bt820.2.2.2.1) else (some false))) else (portreevelaw12_AutoSends.j0 k a1 t810 bt811.2.2.2.2.2 5 bt811.1 bt811.2.1 bt811.2.2.1 bt811.2.2.2.1)))) = some r := h
  clear h
  replace H := Option.bind_eq_some_iff.mp H
  obtain ⟨t810, A30, H⟩ := H
  replace H : ((auto_Do.f 1 0 0 a0 0).bind fun bt811 => (if a1 = true then ((auto_Do.f bt811.1 bt811.2.1 bt811.2.2.1 bt811.2.2.2.1 3).bind fun bt820 => (if bt820.2.2.2.2.2 = 0 then (portreevelaw12_AutoSends.j0 k a1 t810 bt811.2.2.2.2.2 2 bt820.1 bt820.2.1 bt820.2.2.1 bt820.2.2.2.1) else (some false))) else (portreevelaw12_AutoSends.j0 k a1 t810 bt811.2.2.2.2.2 5 bt811.1 bt811.2.1 bt811.2.2.1 bt811.2.2.2.1))) = some r := H
  have A3 := Aside0.mk A30
  clear A30
  replace H := Option.bind_eq_some_iff.mp H
  obtain ⟨⟨t811, t812, t813, t814, t815, t818⟩, A40, H⟩ := H
  replace H : (if a1 = true then ((auto_Do.f t811 t812 t813 t814 3).bind fun bt820 => (if bt820.2.2.2.2.2 = 0 then (portreevelaw12_AutoSends.j0 k a1 t810 t818 2 bt820.1 bt820.2.1 bt820.2.2.1 bt820.2.2.2.1) else (some false))) else (portreevelaw12_AutoSends.j0 k a1 t810 t818 5 t811 t812 t813 t814)) = some r := H
  have A4 := Aside0.mk A40
  clear A40
  have HC5 := Aside0.mk H
  clear H
  go_enter Tryd.func8, Tryd.ntmps8
  go_upto_if 26 with (first | ((with_reducible refine gate_callee (f := 9) rfl ?_); refine goesL_ (some 18) rfl rfl Tryd.func9 (by kernel_rfl) rfl #[] rfl (by (try simp only [List.map_toArray, List.map_cons, List.map_nil]); first | done | rfl | (simp only [List.length_drop, List.length_take]; rfl)) ?_; (with_reducible refine (portreevelaw12_shown.calls k  t810 _ ?side1 A3.out).mono ?_); (case side1 => exact (HGL.out.below (by repeat (first | (with_reducible first | exact HB.out | apply pA | apply pN | apply pD) | exact HB.out)))); rintro e w6 ⟨rfl, hb⟩; refine ⟨_, rfl, ?_⟩; have n0_ := Aside0.mk (below_step (by repeat (first | (with_reducible first | exact HB.out | apply pA | apply pN | apply pD) | exact HB.out)) hb); clear HB; have HB := n0_; clear n0_; (try clear hb); (try clear hb2); (try clear hk); (try clear hi)) | ((with_reducible refine gate_callee (f := 13) rfl ?_); refine goesL_ (some 22) rfl rfl Tryd.func13 (by kernel_rfl) rfl #[.agg #[.int .i64 1, .int .i64 0, .int .i64 0, .int .u8 a0], .int .i64 0] rfl (by (try simp only [List.map_toArray, List.map_cons, List.map_nil]); first | done | rfl | (simp only [List.length_drop, List.length_take]; rfl)) ?_; (with_reducible refine (auto_Do.calls 1 0 0 a0 0 t811 t812 t813 t814 t815 t818 _ ?side1 A4.out).mono ?_); (case side1 => exact (HGL.out.below (by repeat (first | (with_reducible first | exact HB.out | apply pA | apply pN | apply pD) | exact HB.out)))); rintro e w7 ⟨v816, rfl, ho0, hb⟩; refine ⟨_, rfl, ?_⟩; have n0_ := Aside0.mk (Kd.R_lower ho0 (below_size (by repeat (first | (with_reducible first | exact HB.out | apply pA | apply pN | apply pD) | exact HB.out)))); have n1_ := Aside0.mk (below_step (by repeat (first | (with_reducible first | exact HB.out | apply pA | apply pN | apply pD) | exact HB.out)) hb); clear HB; have HO817 := n0_; have HB := n1_; clear n0_ n1_; (try clear hb); (try clear hb2); (try clear hk); (try clear hi); (try clear ho0)) | ((with_reducible refine gate_dst (N := 6) rfl ?_); refine box_event ?hg (N := 6) ?hd (cs := #[.int .i64 0, .int .i64 0, .int .i64 0, .int .u8 0]) (t := 23) ?hr ?_; (case hd => rfl); (case hg => rfl); (case hr => first | (go_simp; done) | (go_simp; rfl)); intro gb819 hg w8 hbox hb; have n0_ := Aside0.mk (Kd.R_below (by (with_reducible repeat (first | apply Kd.R_alloc | apply Kd.R_drewN | apply Kd.R_drew)); exact HO817.out) hb); have n1_ := Aside0.mk (below_step (by repeat (first | (with_reducible first | exact HB.out | apply pA | apply pN | apply pD) | exact HB.out)) hb); have n2_ := Aside0.mk (hbox); have n3_ := Aside0.mk ((by rw [hg]; exact (below_size (by repeat (first | (with_reducible first | exact HB.out | apply pA | apply pN | apply pD) | exact HB.out))) : w.heap.size ≤ gb819)); have n4_ := Aside0.mk ((by rw [hg]; exact (below_size (by repeat (first | (with_reducible first | exact HB.out | apply pA | apply pN | apply pD) | exact HB.out))) : w.heap.size ≤ gb819)); clear HO817; clear HB; have HO817 := n0_; have HB := n1_; have BK819 := n2_; have GW819 := n3_; have GE819 := n4_; clear n0_ n1_ n2_ n3_ n4_; clear hb hbox hg; have hcz9_0 : w8.cell? ⟨gb819, 0, none⟩ = some (.int .i64 0) := (blk_cell BK819.out 0).trans rfl; have hcz9_1 : w8.cell? ⟨gb819, 1, none⟩ = some (.int .i64 0) := (blk_cell BK819.out 1).trans rfl; have hcz9_2 : w8.cell? ⟨gb819, 2, none⟩ = some (.int .i64 0) := (blk_cell BK819.out 2).trans rfl; have hcz9_3 : w8.cell? ⟨gb819, 3, none⟩ = some (.int .u8 0) := (blk_cell BK819.out 3).trans rfl; have hfz9_0 := blk_frozen BK819.out 0; have hfz9_1 := blk_frozen BK819.out 1; have hfz9_2 := blk_frozen BK819.out 2; have hfz9_3 := blk_frozen BK819.out 3))
  (try simp only [Act.put, List.setIfInBounds_toArray, List.set_cons_zero, List.set_cons_succ])
  go_cut [9] (fun v9 wc => ∃ (kq : Nat) (x9_4 : Int) (x820000_4 : Int) (x820001_4 : Int) (x820002_4 : Int) (x820003_4 : Int), v9 = .int .i64 x9_4 ∧ Aside0 (portreevelaw12_AutoSends.j0 kq a1 t810 t818 x9_4 x820000_4 x820001_4 x820002_4 x820003_4 = some r) ∧ Aside0 (kq ≤ k) ∧ Aside0 (wc.heap[gb819]? = some (.cells #[.int .i64 x820000_4, .int .i64 x820001_4, .int .i64 x820002_4, .int .u8 x820003_4] 23 (0, 0))) ∧ Aside0 (Below w.heap.size w wc))
  case first =>
    have H := HC5.out
    clear HC5
    by_cases c10 : a1 = true
    · subst c10
      have H1 : ((auto_Do.f t811 t812 t813 t814 3).bind fun bt820 => (if bt820.2.2.2.2.2 = 0 then (portreevelaw12_AutoSends.j0 k true t810 t818 2 bt820.1 bt820.2.1 bt820.2.2.1 bt820.2.2.2.1) else (some false))) = some r := by rw [if_pos rfl] at H; exact H
      clear H
      have H := H1
      clear H1
      replace H := Option.bind_eq_some_iff.mp H
      obtain ⟨⟨t820, t821, t822, t823, t824, t827⟩, A110, H⟩ := H
      replace H : (if t827 = 0 then (portreevelaw12_AutoSends.j0 k true t810 t818 2 t820 t821 t822 t823) else (some false)) = some r := H
      have A11 := Aside0.mk A110
      clear A110
      by_cases c12 : t827 = 0
      · rw [if_pos c12] at H
        have c12b0 : (t827 == 0) = true := beq_iff_eq.mpr c12
        have c12b1 : (t827 != 0) = false := bne_eq_false_iff_eq.mpr c12
        clear c12
        (first | rw [c12b0] | (simp only [i64_w, i32_w]; rw [c12b0]) | skip)
        have H' := Aside0.mk H
        clear H
        have hcz13_0 : w8.cell? ⟨gb819, 0, none⟩ = some (.int .i64 0) := (blk_cell BK819.out 0).trans rfl
        have hcz13_1 : w8.cell? ⟨gb819, 1, none⟩ = some (.int .i64 0) := (blk_cell BK819.out 1).trans rfl
        have hcz13_2 : w8.cell? ⟨gb819, 2, none⟩ = some (.int .i64 0) := (blk_cell BK819.out 2).trans rfl
        have hcz13_3 : w8.cell? ⟨gb819, 3, none⟩ = some (.int .u8 0) := (blk_cell BK819.out 3).trans rfl
        have hfz13_0 := blk_frozen BK819.out 0
        have hfz13_1 := blk_frozen BK819.out 1
        have hfz13_2 := blk_frozen BK819.out 2
        have hfz13_3 := blk_frozen BK819.out 3
        go_wp2_with (first | ((with_reducible refine gate_callee (f := 13) rfl ?_); refine goesL_ (some 29) rfl rfl Tryd.func13 (by kernel_rfl) rfl #[.agg #[.int .i64 t811, .int .i64 t812, .int .i64 t813, .int .u8 t814], .int .i64 3] rfl (by (try simp only [List.map_toArray, List.map_cons, List.map_nil]); first | done | rfl | (simp only [List.length_drop, List.length_take]; rfl)) ?_; (with_reducible refine (auto_Do.calls t811 t812 t813 t814 3 t820 t821 t822 t823 t824 t827 _ ?side1 A11.out).mono ?_); (case side1 => exact (HGL.out.below (by repeat (first | (with_reducible first | exact HB.out | apply pA | apply pN | apply pD | refine pS ?_ GE819.out) | exact HB.out)))); rintro e w14 ⟨v825, rfl, ho0, hb⟩; refine ⟨_, rfl, ?_⟩; have n0_ := Aside0.mk (Kd.R_elder' (by (with_reducible repeat (first | apply Kd.R_alloc | apply Kd.R_drewN | apply Kd.R_drew)); exact (Kd.R_mono (Kd.R_far (p := ⟨gb819, 3, none⟩) (Kd.R_far (p := ⟨gb819, 2, none⟩) (Kd.R_far (p := ⟨gb819, 1, none⟩) (Kd.R_far (p := ⟨gb819, 0, none⟩) (Kd.R_types HO817.out BK819.out (by decide)) (fun _ hk => hk.2) (.int .i64 t811)) (fun _ hk => hk.2) (.int .i64 t812)) (fun _ hk => hk.2) (.int .i64 t813)) (fun _ hk => hk.2) (.int .u8 t814)) (fun _ h_ => h_.1))) (Kd.R_base ho0) hb); have n1_ := Aside0.mk (Kd.R_lower (Kd.R_new' ho0 (Kd.R_lt (by (with_reducible repeat (first | apply Kd.R_alloc | apply Kd.R_drewN | apply Kd.R_drew)); exact (Kd.R_mono (Kd.R_far (p := ⟨gb819, 3, none⟩) (Kd.R_far (p := ⟨gb819, 2, none⟩) (Kd.R_far (p := ⟨gb819, 1, none⟩) (Kd.R_far (p := ⟨gb819, 0, none⟩) (Kd.R_types HO817.out BK819.out (by decide)) (fun _ hk => hk.2) (.int .i64 t811)) (fun _ hk => hk.2) (.int .i64 t812)) (fun _ hk => hk.2) (.int .i64 t813)) (fun _ hk => hk.2) (.int .u8 t814)) (fun _ h_ => h_.1))))) (below_size (by repeat (first | (with_reducible first | exact HB.out | apply pA | apply pN | apply pD | refine pS ?_ GE819.out) | exact HB.out)))); have n2_ := Aside0.mk (blk_below (g := gb819) (o := .cells #[.int .i64 t811, .int .i64 t812, .int .i64 t813, .int .u8 t814] 23 (0, 0)) (by (with_reducible repeat (first | refine qN ?_ _ | refine qD ?_ | refine qA ?_ _)); refine blk_put (cs := #[.int .i64 t811, .int .i64 t812, .int .i64 t813, .int .u8 0]) ?_ 3 _ rfl; (with_reducible repeat (first | refine qN ?_ _ | refine qD ?_ | refine qA ?_ _)); refine blk_put (cs := #[.int .i64 t811, .int .i64 t812, .int .i64 0, .int .u8 0]) ?_ 2 _ rfl; (with_reducible repeat (first | refine qN ?_ _ | refine qD ?_ | refine qA ?_ _)); refine blk_put (cs := #[.int .i64 t811, .int .i64 0, .int .i64 0, .int .u8 0]) ?_ 1 _ rfl; (with_reducible repeat (first | refine qN ?_ _ | refine qD ?_ | refine qA ?_ _)); refine blk_put (cs := #[.int .i64 0, .int .i64 0, .int .i64 0, .int .u8 0]) ?_ 0 _ rfl; (with_reducible repeat (first | refine qN ?_ _ | refine qD ?_ | refine qA ?_ _)); exact BK819.out) hb); have n3_ := Aside0.mk (below_step (by repeat (first | (with_reducible first | exact HB.out | apply pA | apply pN | apply pD | refine pS ?_ GE819.out) | exact HB.out)) hb); clear HO817; clear BK819; clear HB; have HO817 := n0_; have HO826 := n1_; have BK819 := n2_; have HB := n3_; clear n0_ n1_ n2_ n3_; (try clear hb); (try clear hb2); (try clear hk); (try clear hi); (try clear ho0)) | ((with_reducible refine gate_dst (N := 10) rfl ?_); refine box_event ?hg (N := 10) ?hd (cs := #[.int .i64 0, .int .i64 0, .int .i64 0, .int .u8 0]) (t := 23) ?hr ?_; (case hd => rfl); (case hg => rfl); (case hr => first | (go_simp; done) | (go_simp; rfl)); intro gb828 hg w15 hbox hb; have n0_ := Aside0.mk (Kd.R_below (by (with_reducible repeat (first | apply Kd.R_alloc | apply Kd.R_drewN | apply Kd.R_drew)); exact HO817.out) hb); have n1_ := Aside0.mk (Kd.R_below (by (with_reducible repeat (first | apply Kd.R_alloc | apply Kd.R_drewN | apply Kd.R_drew)); exact HO826.out) hb); have n2_ := Aside0.mk (blk_below (g := gb819) (o := .cells #[.int .i64 t811, .int .i64 t812, .int .i64 t813, .int .u8 t814] 23 (0, 0)) (by (with_reducible repeat (first | refine qN ?_ _ | refine qD ?_ | refine qA ?_ _)); exact BK819.out) hb); have n3_ := Aside0.mk (below_step (by repeat (first | (with_reducible first | exact HB.out | apply pA | apply pN | apply pD | refine pS ?_ GE819.out) | exact HB.out)) hb); have n4_ := Aside0.mk (hbox); have n5_ := Aside0.mk ((by rw [hg]; exact (below_size (by repeat (first | (with_reducible first | exact HB.out | apply pA | apply pN | apply pD | refine pS ?_ GE819.out) | exact HB.out))) : w.heap.size ≤ gb828)); have n6_ := Aside0.mk ((by rw [hg]; exact (below_size (by repeat (first | (with_reducible first | exact HB.out | apply pA | apply pN | apply pD | refine pS ?_ GE819.out) | exact HB.out))) : w.heap.size ≤ gb828)); have n7_ := Aside0.mk ((by rw [hg]; exact Nat.ne_of_lt (blk_lt (g := gb819) (o := .cells #[.int .i64 t811, .int .i64 t812, .int .i64 t813, .int .u8 t814] 23 (0, 0)) (by (with_reducible repeat (first | refine qN ?_ _ | refine qD ?_ | refine qA ?_ _)); exact BK819.out)) : gb819 ≠ gb828)); have n8_ := Aside0.mk ((by rw [hg]; exact Nat.ne_of_gt (blk_lt (g := gb819) (o := .cells #[.int .i64 t811, .int .i64 t812, .int .i64 t813, .int .u8 t814] 23 (0, 0)) (by (with_reducible repeat (first | refine qN ?_ _ | refine qD ?_ | refine qA ?_ _)); exact BK819.out)) : gb828 ≠ gb819)); clear HO817; clear HO826; clear BK819; clear HB; have HO817 := n0_; have HO826 := n1_; have BK819 := n2_; have HB := n3_; have BK828 := n4_; have GW828 := n5_; have GE828 := n6_; have NB819_828 := n7_; have NB828_819 := n8_; clear n0_ n1_ n2_ n3_ n4_ n5_ n6_ n7_ n8_; clear hb hbox hg; have hnb16 := NB828_819.out; have hnc16 := NB819_828.out; have hcz17_0 : w15.cell? ⟨gb828, 0, none⟩ = some (.int .i64 0) := (blk_cell BK828.out 0).trans rfl; have hcz17_1 : w15.cell? ⟨gb828, 1, none⟩ = some (.int .i64 0) := (blk_cell BK828.out 1).trans rfl; have hcz17_2 : w15.cell? ⟨gb828, 2, none⟩ = some (.int .i64 0) := (blk_cell BK828.out 2).trans rfl; have hcz17_3 : w15.cell? ⟨gb828, 3, none⟩ = some (.int .u8 0) := (blk_cell BK828.out 3).trans rfl; have hfz17_0 := blk_frozen BK828.out 0; have hfz17_1 := blk_frozen BK828.out 1; have hfz17_2 := blk_frozen BK828.out 2; have hfz17_3 := blk_frozen BK828.out 3; have hcz18_0 : w15.cell? ⟨gb819, 0, none⟩ = some (.int .i64 t811) := (blk_cell BK819.out 0).trans rfl; have hcz18_1 : w15.cell? ⟨gb819, 1, none⟩ = some (.int .i64 t812) := (blk_cell BK819.out 1).trans rfl; have hcz18_2 : w15.cell? ⟨gb819, 2, none⟩ = some (.int .i64 t813) := (blk_cell BK819.out 2).trans rfl; have hcz18_3 : w15.cell? ⟨gb819, 3, none⟩ = some (.int .u8 t814) := (blk_cell BK819.out 3).trans rfl; have hfz18_0 := blk_frozen BK819.out 0; have hfz18_1 := blk_frozen BK819.out 1; have hfz18_2 := blk_frozen BK819.out 2; have hfz18_3 := blk_frozen BK819.out 3))
        go_meet
        case rel => exact ⟨_, (2), (t820), (t821), (t822), (t823), (by first | rfl | (simp; done) | (simp [*]; done)), H', ⟨by first | omega | exact Nat.le_refl _⟩, ⟨by (with_reducible repeat (first | refine qN ?_ _ | refine qD ?_ | refine qA ?_ _)); refine blk_put (cs := #[.int .i64 t820, .int .i64 t821, .int .i64 t822, .int .u8 t814]) ?_ 3 _ rfl; (with_reducible repeat (first | refine qN ?_ _ | refine qD ?_ | refine qA ?_ _)); refine blk_put (cs := #[.int .i64 t820, .int .i64 t821, .int .i64 t813, .int .u8 t814]) ?_ 2 _ rfl; (with_reducible repeat (first | refine qN ?_ _ | refine qD ?_ | refine qA ?_ _)); refine blk_put (cs := #[.int .i64 t820, .int .i64 t812, .int .i64 t813, .int .u8 t814]) ?_ 1 _ rfl; (with_reducible repeat (first | refine qN ?_ _ | refine qD ?_ | refine qA ?_ _)); refine blk_put (cs := #[.int .i64 t811, .int .i64 t812, .int .i64 t813, .int .u8 t814]) ?_ 0 _ rfl; (with_reducible repeat (first | refine qN ?_ _ | refine qD ?_ | refine qA ?_ _)); refine blk_far ?_ NB819_828.out _; (with_reducible repeat (first | refine qN ?_ _ | refine qD ?_ | refine qA ?_ _)); refine blk_far ?_ NB819_828.out _; (with_reducible repeat (first | refine qN ?_ _ | refine qD ?_ | refine qA ?_ _)); refine blk_far ?_ NB819_828.out _; (with_reducible repeat (first | refine qN ?_ _ | refine qD ?_ | refine qA ?_ _)); refine blk_far ?_ NB819_828.out _; (with_reducible repeat (first | refine qN ?_ _ | refine qD ?_ | refine qA ?_ _)); exact BK819.out⟩, ⟨by repeat (first | (with_reducible first | exact HB.out | apply pA | apply pN | apply pD | refine pS ?_ GE819.out | refine pS ?_ GE828.out) | exact HB.out)⟩⟩
      · rw [if_neg c12] at H
        have c12b0 : (t827 == 0) = false := beq_eq_false_iff_ne.mpr c12
        have c12b1 : (t827 != 0) = true := bne_iff_ne.mpr c12
        (first | rw [c12b0] | (simp only [i64_w, i32_w]; rw [c12b0]) | skip)
        exact absurd ((Option.some.inj H).trans hlaw_.out) (by decide)
    · replace c10 := Bool.eq_false_iff.mpr c10
      subst c10
      have H1 : (portreevelaw12_AutoSends.j0 k false t810 t818 5 t811 t812 t813 t814) = some r := by rw [if_neg (show ¬ (false = true) by decide)] at H; exact H
      clear H
      have H := H1
      clear H1
      have H' := Aside0.mk H
      clear H
      go_wp2
      go_meet
      case rel => exact ⟨_, (5), (t811), (t812), (t813), (t814), (by first | rfl | (simp; done) | (simp [*]; done)), H', ⟨by first | omega | exact Nat.le_refl _⟩, ⟨by (with_reducible repeat (first | refine qN ?_ _ | refine qD ?_ | refine qA ?_ _)); refine blk_put (cs := #[.int .i64 t811, .int .i64 t812, .int .i64 t813, .int .u8 0]) ?_ 3 _ rfl; (with_reducible repeat (first | refine qN ?_ _ | refine qD ?_ | refine qA ?_ _)); refine blk_put (cs := #[.int .i64 t811, .int .i64 t812, .int .i64 0, .int .u8 0]) ?_ 2 _ rfl; (with_reducible repeat (first | refine qN ?_ _ | refine qD ?_ | refine qA ?_ _)); refine blk_put (cs := #[.int .i64 t811, .int .i64 0, .int .i64 0, .int .u8 0]) ?_ 1 _ rfl; (with_reducible repeat (first | refine qN ?_ _ | refine qD ?_ | refine qA ?_ _)); refine blk_put (cs := #[.int .i64 0, .int .i64 0, .int .i64 0, .int .u8 0]) ?_ 0 _ rfl; (with_reducible repeat (first | refine qN ?_ _ | refine qD ?_ | refine qA ?_ _)); exact BK819.out⟩, ⟨by repeat (first | (with_reducible first | exact HB.out | apply pA | apply pN | apply pD | refine pS ?_ GE819.out) | exact HB.out)⟩⟩
  case rest =>
    clear HC5
    try clear c1
    try clear p2
    try clear c8
    try clear c9
    try clear c10
    try clear c12
    try clear c12b0
    try clear c12b1
    try clear c13
    try clear c16
    try clear hcz13_0
    try clear hcz13_1
    try clear hcz13_2
    try clear hcz13_3
    try clear hcz17_0
    try clear hcz17_1
    try clear hcz17_2
    try clear hcz17_3
    try clear hcz18_0
    try clear hcz18_1
    try clear hcz18_2
    try clear hcz18_3
    try clear hcz9_0
    try clear hcz9_1
    try clear hcz9_2
    try clear hcz9_3
    try clear hfz13_0
    try clear hfz13_1
    try clear hfz13_2
    try clear hfz13_3
    try clear hfz17_0
    try clear hfz17_1
    try clear hfz17_2
    try clear hfz17_3
    try clear hfz18_0
    try clear hfz18_1
    try clear hfz18_2
    try clear hfz18_3
    try clear hfz9_0
    try clear hfz9_1
    try clear hfz9_2
    try clear hfz9_3
    obtain ⟨kq, x9_4, x820000_4, x820001_4, x820002_4, x820003_4, rfl, HA, HJ4, BK819, HB⟩ := hcut
    cases kq with
    | zero => exact absurd HA.out (by simp [portreevelaw12_AutoSends.j0])
    | succ kj4 =>
      have H := HA.out
      clear HA
      simp only [portreevelaw12_AutoSends.j0] at H
      have H' := Aside0.mk H
      clear H
      go_wp2
      go_loopg [13, 14, 15] kj4 (fun kq v13 v14 v15 w' => ∃ (x13_2 : Int) (x14_2 : Int) (x15_2 : Int) (x820000_2 : Int) (x820001_2 : Int) (x820002_2 : Int) (x820003_2 : Int), v13 = .int .i64 x13_2 ∧ v14 = .int .i64 x14_2 ∧ v15 = .int .i64 x15_2 ∧ Aside0 (portreevelaw12_AutoSends.l0 kq a1 t810 t818 x9_4 x13_2 x14_2 x15_2 x820000_2 x820001_2 x820002_2 x820003_2 = some r) ∧ Aside0 (kq ≤ kj4) ∧ Aside0 (w'.heap[gb819]? = some (.cells #[.int .i64 x820000_2, .int .i64 x820001_2, .int .i64 x820002_2, .int .u8 x820003_2] 23 (0, 0))) ∧ Aside0 (Below w.heap.size w w'))
      case atStart => exact ⟨(1), (0), (0), (x820000_4), (x820001_4), (x820002_4), (x820003_4), (by first | rfl | (simp; done) | (simp [*]; done)), (by first | rfl | (simp; done) | (simp [*]; done)), (by first | rfl | (simp; done) | (simp [*]; done)), H', ⟨Nat.le_refl _⟩, ⟨by (with_reducible repeat (first | refine qN ?_ _ | refine qD ?_ | refine qA ?_ _)); exact BK819.out⟩, ⟨by repeat (first | (with_reducible first | exact HB.out | apply pA | apply pN | apply pD | refine pS ?_ GE819.out) | exact HB.out)⟩⟩
      case round =>
        clear H'
        try clear c1
        try clear p2
        try clear c8
        try clear c9
        try clear c10
        try clear c12
        try clear c12b0
        try clear c12b1
        try clear c13
        try clear c16
        try clear hcz13_0
        try clear hcz13_1
        try clear hcz13_2
        try clear hcz13_3
        try clear hcz17_0
        try clear hcz17_1
        try clear hcz17_2
        try clear hcz17_3
        try clear hcz18_0
        try clear hcz18_1
        try clear hcz18_2
        try clear hcz18_3
        try clear hcz9_0
        try clear hcz9_1
        try clear hcz9_2
        try clear hcz9_3
        try clear hfz13_0
        try clear hfz13_1
        try clear hfz13_2
        try clear hfz13_3
        try clear hfz17_0
        try clear hfz17_1
        try clear hfz17_2
        try clear hfz17_3
        try clear hfz18_0
        try clear hfz18_1
        try clear hfz18_2
        try clear hfz18_3
        try clear hfz9_0
        try clear hfz9_1
        try clear hfz9_2
        try clear hfz9_3
        try clear p2
        obtain ⟨x13_2, x14_2, x15_2, x820000_2, x820001_2, x820002_2, x820003_2, rfl, rfl, rfl, HA, HK2, BK819, HB⟩ := hrel
        cases gk with
        | zero => exact absurd HA.out (by simp [portreevelaw12_AutoSends.l0])
        | succ k2 =>
          have H := HA.out
          clear HA
          simp only [portreevelaw12_AutoSends.l0] at H
          replace H := Option.bind_eq_some_iff.mp H
          obtain ⟨t829, A190, H⟩ := H
          replace H : (if x15_2 < t829 then ((auto_Tick.f x820000_2 x820001_2 x820002_2 x820003_2).bind fun bt830 => ((portreeveref11_Has.f k2 bt830.2.2.2.2 7).bind fun t838 => (if t838 = true then (portreevelaw12_AutoSends.j2 k2 a1 t810 t818 x9_4 x13_2 x14_2 x15_2 bt830.2.2.2.2 true bt830.1 bt830.2.1 bt830.2.2.1 bt830.2.2.2.1) else ((portreeveref11_Has.f k2 bt830.2.2.2.2 10).bind fun t839 => (portreevelaw12_AutoSends.j2 k2 a1 t810 t818 x9_4 x13_2 x14_2 x15_2 bt830.2.2.2.2 t839 bt830.1 bt830.2.1 bt830.2.2.1 bt830.2.2.2.1))))) else (if t810 = true then (if t818 = 0 then (if x13_2 = x9_4 then (if x14_2 = 1 then (if a1 = true then (if x820000_2 = 2 then (some true) else (some false)) else (some (x820000_2 == 3))) else (some false)) else (some false)) else (some false)) else (some false))) = some r := H
          have A19 := Aside0.mk A190
          clear A190
          by_cases c20 : x15_2 < t829
          · rw [if_pos c20] at H
            have c20b0 : decide (x15_2 < t829) = true := decide_eq_true c20
            clear c20
            replace H := Option.bind_eq_some_iff.mp H
            obtain ⟨⟨t830, t831, t832, t833, t834⟩, A210, H⟩ := H
            replace H : ((portreeveref11_Has.f k2 t834 7).bind fun t838 => (if t838 = true then (portreevelaw12_AutoSends.j2 k2 a1 t810 t818 x9_4 x13_2 x14_2 x15_2 t834 true t830 t831 t832 t833) else ((portreeveref11_Has.f k2 t834 10).bind fun t839 => (portreevelaw12_AutoSends.j2 k2 a1 t810 t818 x9_4 x13_2 x14_2 x15_2 t834 t839 t830 t831 t832 t833)))) = some r := H
            have A21 := Aside0.mk A210
            clear A210
            have HC22 := Aside0.mk H
            clear H
            go_upto_region 16 with (first | ((with_reducible refine gate_callee (f := 12) rfl ?_); refine goesL_ (some 37) rfl rfl Tryd.func12 (by kernel_rfl) rfl #[] rfl (by (try simp only [List.map_toArray, List.map_cons, List.map_nil]); first | done | rfl | (simp only [List.length_drop, List.length_take]; rfl)) ?_; (with_reducible refine (auto_Bound.calls  t829 _ A19.out).mono ?_); rintro e w' ⟨rfl, ⟨nd, rfl⟩⟩; refine ⟨_, rfl, ?_⟩; (try (rw [drewN_self wr]; generalize hq_ : World.drewN wr _ = wr; have n0_ : Aside0 (wr.heap[gb819]? = some (.cells #[.int .i64 x820000_2, .int .i64 x820001_2, .int .i64 x820002_2, .int .u8 x820003_2] 23 (0, 0))) := ⟨by rw [← hq_]; exact (by (with_reducible repeat (first | refine qN ?_ _ | refine qD ?_ | refine qA ?_ _)); exact BK819.out)⟩; have n1_ : Aside0 (Below w.heap.size w wr) := ⟨by rw [← hq_]; exact (by repeat (first | (with_reducible first | exact HB.out | apply pA | apply pN | apply pD | refine pS ?_ GE819.out) | exact HB.out))⟩; clear BK819 HB hq_; have BK819 := n0_; have HB := n1_; clear n0_ n1_)); have hcz23_0 : wr.cell? ⟨gb819, 0, none⟩ = some (.int .i64 x820000_2) := (blk_cell BK819.out 0).trans rfl; have hcz23_1 : wr.cell? ⟨gb819, 1, none⟩ = some (.int .i64 x820001_2) := (blk_cell BK819.out 1).trans rfl; have hcz23_2 : wr.cell? ⟨gb819, 2, none⟩ = some (.int .i64 x820002_2) := (blk_cell BK819.out 2).trans rfl; have hcz23_3 : wr.cell? ⟨gb819, 3, none⟩ = some (.int .u8 x820003_2) := (blk_cell BK819.out 3).trans rfl; have hfz23_0 := blk_frozen BK819.out 0; have hfz23_1 := blk_frozen BK819.out 1; have hfz23_2 := blk_frozen BK819.out 2; have hfz23_3 := blk_frozen BK819.out 3) | ((with_reducible refine gate_callee (f := 15) rfl ?_); refine goesL_ (some 43) rfl rfl Tryd.func15 (by kernel_rfl) rfl #[.agg #[.int .i64 x820000_2, .int .i64 x820001_2, .int .i64 x820002_2, .int .u8 x820003_2]] rfl (by (try simp only [List.map_toArray, List.map_cons, List.map_nil]); first | done | rfl | (simp only [List.length_drop, List.length_take]; rfl)) ?_; (with_reducible refine (auto_Tick.calls x820000_2 x820001_2 x820002_2 x820003_2 t830 t831 t832 t833 t834 _ ?side1 A21.out).mono ?_); (case side1 => exact (HGL.out.below (by repeat (first | (with_reducible first | exact HB.out | apply pA | apply pN | apply pD | refine pS ?_ GE819.out) | exact HB.out)))); rintro e w24 ⟨v835, rfl, ho0, hb⟩; refine ⟨_, rfl, ?_⟩; have n0_ := Aside0.mk (Kd.R_lower ho0 (below_size (by repeat (first | (with_reducible first | exact HB.out | apply pA | apply pN | apply pD | refine pS ?_ GE819.out) | exact HB.out)))); have n1_ := Aside0.mk (blk_below (g := gb819) (o := .cells #[.int .i64 x820000_2, .int .i64 x820001_2, .int .i64 x820002_2, .int .u8 x820003_2] 23 (0, 0)) (by (with_reducible repeat (first | refine qN ?_ _ | refine qD ?_ | refine qA ?_ _)); exact BK819.out) hb); have n2_ := Aside0.mk (below_step (by repeat (first | (with_reducible first | exact HB.out | apply pA | apply pN | apply pD | refine pS ?_ GE819.out) | exact HB.out)) hb); clear BK819; clear HB; have HO836 := n0_; have BK819 := n1_; have HB := n2_; clear n0_ n1_ n2_; (try clear hb); (try clear hb2); (try clear hk); (try clear hi); (try clear ho0)) | ((with_reducible refine gate_dst (N := 16) rfl ?_); refine box_event ?hg (N := 16) ?hd (cs := #[.int .i64 0, .int .i64 0, .int .i64 0, .int .u8 0]) (t := 23) ?hr ?_; (case hd => rfl); (case hg => rfl); (case hr => first | (go_simp; done) | (go_simp; rfl)); intro gb837 hg w25 hbox hb; have n0_ := Aside0.mk (Kd.R_below (by (with_reducible repeat (first | apply Kd.R_alloc | apply Kd.R_drewN | apply Kd.R_drew)); exact HO836.out) hb); have n1_ := Aside0.mk (blk_below (g := gb819) (o := .cells #[.int .i64 x820000_2, .int .i64 x820001_2, .int .i64 x820002_2, .int .u8 x820003_2] 23 (0, 0)) (by (with_reducible repeat (first | refine qN ?_ _ | refine qD ?_ | refine qA ?_ _)); exact BK819.out) hb); have n2_ := Aside0.mk (below_step (by repeat (first | (with_reducible first | exact HB.out | apply pA | apply pN | apply pD | refine pS ?_ GE819.out) | exact HB.out)) hb); have n3_ := Aside0.mk (hbox); have n4_ := Aside0.mk ((by rw [hg]; exact (below_size (by repeat (first | (with_reducible first | exact HB.out | apply pA | apply pN | apply pD | refine pS ?_ GE819.out) | exact HB.out))) : w.heap.size ≤ gb837)); have n5_ := Aside0.mk ((by rw [hg]; exact (below_size (by repeat (first | (with_reducible first | exact HB.out | apply pA | apply pN | apply pD | refine pS ?_ GE819.out) | exact HB.out))) : w.heap.size ≤ gb837)); have n6_ := Aside0.mk ((by rw [hg]; exact Nat.ne_of_lt (blk_lt (g := gb819) (o := .cells #[.int .i64 x820000_2, .int .i64 x820001_2, .int .i64 x820002_2, .int .u8 x820003_2] 23 (0, 0)) (by (with_reducible repeat (first | refine qN ?_ _ | refine qD ?_ | refine qA ?_ _)); exact BK819.out)) : gb819 ≠ gb837)); have n7_ := Aside0.mk ((by rw [hg]; exact Nat.ne_of_gt (blk_lt (g := gb819) (o := .cells #[.int .i64 x820000_2, .int .i64 x820001_2, .int .i64 x820002_2, .int .u8 x820003_2] 23 (0, 0)) (by (with_reducible repeat (first | refine qN ?_ _ | refine qD ?_ | refine qA ?_ _)); exact BK819.out)) : gb837 ≠ gb819)); clear HO836; clear BK819; clear HB; have HO836 := n0_; have BK819 := n1_; have HB := n2_; have BK837 := n3_; have GW837 := n4_; have GE837 := n5_; have NB819_837 := n6_; have NB837_819 := n7_; clear n0_ n1_ n2_ n3_ n4_ n5_ n6_ n7_; clear hb hbox hg; have hnb26 := NB837_819.out; have hnc26 := NB819_837.out; have hcz27_0 : w25.cell? ⟨gb837, 0, none⟩ = some (.int .i64 0) := (blk_cell BK837.out 0).trans rfl; have hcz27_1 : w25.cell? ⟨gb837, 1, none⟩ = some (.int .i64 0) := (blk_cell BK837.out 1).trans rfl; have hcz27_2 : w25.cell? ⟨gb837, 2, none⟩ = some (.int .i64 0) := (blk_cell BK837.out 2).trans rfl; have hcz27_3 : w25.cell? ⟨gb837, 3, none⟩ = some (.int .u8 0) := (blk_cell BK837.out 3).trans rfl; have hfz27_0 := blk_frozen BK837.out 0; have hfz27_1 := blk_frozen BK837.out 1; have hfz27_2 := blk_frozen BK837.out 2; have hfz27_3 := blk_frozen BK837.out 3))
            (try simp only [Act.put, List.setIfInBounds_toArray, List.set_cons_zero, List.set_cons_succ])
            go_cut [51] (fun v51 wc => ∃ (kq : Nat) (x51_21 : Bool), v51 = .bool x51_21 ∧ Aside0 (portreevelaw12_AutoSends.j2 kq a1 t810 t818 x9_4 x13_2 x14_2 x15_2 t834 x51_21 t830 t831 t832 t833 = some r) ∧ Aside0 (kq ≤ k2) ∧ Aside0 (Kd.R (Kd.int .i64) 3 wc w.heap.size (fun _ => True) v835 t834) ∧ Aside0 (wc.heap[gb819]? = some (.cells #[.int .i64 x820000_2, .int .i64 x820001_2, .int .i64 x820002_2, .int .u8 x820003_2] 23 (0, 0))) ∧ Aside0 (wc.heap[gb837]? = some (.cells #[.int .i64 t830, .int .i64 t831, .int .i64 t832, .int .u8 t833] 23 (0, 0))) ∧ Aside0 (Below w.heap.size w wc))
            case first =>
              have H := HC22.out
              clear HC22
              replace H := Option.bind_eq_some_iff.mp H
              obtain ⟨t838, A280, H⟩ := H
              replace H : (if t838 = true then (portreevelaw12_AutoSends.j2 k2 a1 t810 t818 x9_4 x13_2 x14_2 x15_2 t834 true t830 t831 t832 t833) else ((portreeveref11_Has.f k2 t834 10).bind fun t839 => (portreevelaw12_AutoSends.j2 k2 a1 t810 t818 x9_4 x13_2 x14_2 x15_2 t834 t839 t830 t831 t832 t833))) = some r := H
              have A28 := Aside0.mk A280
              clear A280
              by_cases c29 : t838 = true
              · subst c29
                have H1 : (portreevelaw12_AutoSends.j2 k2 a1 t810 t818 x9_4 x13_2 x14_2 x15_2 t834 true t830 t831 t832 t833) = some r := by rw [if_pos rfl] at H; exact H
                clear H
                have H := H1
                clear H1
                have H' := Aside0.mk H
                clear H
                obtain ⟨Ao30, co30, eo30⟩ := Kd.R_slice HO836.out
                subst eo30
                go_wp2_with (first | ((with_reducible refine gate_callee (f := 20) rfl ?_); refine goesL_ (some 47) rfl rfl Tryd.func20 (by kernel_rfl) rfl #[.slice Ao30 t834.length co30, .int .i64 7] rfl (by (try simp only [List.map_toArray, List.map_cons, List.map_nil]); first | done | rfl | (simp only [List.length_drop, List.length_take]; rfl)) ?_; (with_reducible refine (portreeveref11_Has.calls k2 _ _ t834 7 true _ ?side1 ?side2 A28.out).mono ?_); (case side1 => refine (Kd.R_reads' (e := 3) (base := w.heap.size) (ok := fun k_ => True) (n := t834.length) (c := co30) ?_).2.2; exact (by (with_reducible repeat (first | apply Kd.R_alloc | apply Kd.R_drewN | apply Kd.R_drew)); exact (Kd.R_mono (Kd.R_far (p := ⟨gb837, 3, none⟩) (Kd.R_far (p := ⟨gb837, 2, none⟩) (Kd.R_far (p := ⟨gb837, 1, none⟩) (Kd.R_far (p := ⟨gb837, 0, none⟩) (Kd.R_types HO836.out BK837.out (by decide)) (fun _ hk => hk.2) (.int .i64 t830)) (fun _ hk => hk.2) (.int .i64 t831)) (fun _ hk => hk.2) (.int .i64 t832)) (fun _ hk => hk.2) (.int .u8 t833)) (fun _ h_ => h_.1)))); (case side2 => exact (Kd.R_reads' HO836.out).2.1); rintro e w' ⟨rfl, ⟨nd, rfl⟩⟩; refine ⟨_, rfl, ?_⟩))
                go_meet
                case rel => exact ⟨_, (true), (by first | rfl | (simp; done) | (simp [*]; done)), H', ⟨by have := HJ4.out; have := HK2.out; first | omega | exact Nat.le_refl _⟩, ⟨by (with_reducible repeat (first | apply Kd.R_alloc | apply Kd.R_drewN | apply Kd.R_drew)); exact Kd.R_mono (Kd.R_far (p := ⟨gb837, 3, none⟩) (Kd.R_far (p := ⟨gb837, 2, none⟩) (Kd.R_far (p := ⟨gb837, 1, none⟩) (Kd.R_far (p := ⟨gb837, 0, none⟩) (Kd.R_types HO836.out BK837.out (by decide)) (fun _ hk => hk.2) (.int .i64 t830)) (fun _ hk => hk.2) (.int .i64 t831)) (fun _ hk => hk.2) (.int .i64 t832)) (fun _ hk => hk.2) (.int .u8 t833)) (fun _ hk => trivial)⟩, ⟨by (with_reducible repeat (first | refine qN ?_ _ | refine qD ?_ | refine qA ?_ _)); refine blk_far ?_ NB819_837.out _; (with_reducible repeat (first | refine qN ?_ _ | refine qD ?_ | refine qA ?_ _)); refine blk_far ?_ NB819_837.out _; (with_reducible repeat (first | refine qN ?_ _ | refine qD ?_ | refine qA ?_ _)); refine blk_far ?_ NB819_837.out _; (with_reducible repeat (first | refine qN ?_ _ | refine qD ?_ | refine qA ?_ _)); refine blk_far ?_ NB819_837.out _; (with_reducible repeat (first | refine qN ?_ _ | refine qD ?_ | refine qA ?_ _)); exact BK819.out⟩, ⟨by (with_reducible repeat (first | refine qN ?_ _ | refine qD ?_ | refine qA ?_ _)); refine blk_put (cs := #[.int .i64 t830, .int .i64 t831, .int .i64 t832, .int .u8 0]) ?_ 3 _ rfl; (with_reducible repeat (first | refine qN ?_ _ | refine qD ?_ | refine qA ?_ _)); refine blk_put (cs := #[.int .i64 t830, .int .i64 t831, .int .i64 0, .int .u8 0]) ?_ 2 _ rfl; (with_reducible repeat (first | refine qN ?_ _ | refine qD ?_ | refine qA ?_ _)); refine blk_put (cs := #[.int .i64 t830, .int .i64 0, .int .i64 0, .int .u8 0]) ?_ 1 _ rfl; (with_reducible repeat (first | refine qN ?_ _ | refine qD ?_ | refine qA ?_ _)); refine blk_put (cs := #[.int .i64 0, .int .i64 0, .int .i64 0, .int .u8 0]) ?_ 0 _ rfl; (with_reducible repeat (first | refine qN ?_ _ | refine qD ?_ | refine qA ?_ _)); exact BK837.out⟩, ⟨by repeat (first | (with_reducible first | exact HB.out | apply pA | apply pN | apply pD | refine pS ?_ GE819.out | refine pS ?_ GE837.out) | exact HB.out)⟩⟩
              · replace c29 := Bool.eq_false_iff.mpr c29
                subst c29
                have H1 : ((portreeveref11_Has.f k2 t834 10).bind fun t839 => (portreevelaw12_AutoSends.j2 k2 a1 t810 t818 x9_4 x13_2 x14_2 x15_2 t834 t839 t830 t831 t832 t833)) = some r := by rw [if_neg (show ¬ (false = true) by decide)] at H; exact H
                clear H
                have H := H1
                clear H1
                replace H := Option.bind_eq_some_iff.mp H
                obtain ⟨t839, A310, H⟩ := H
                replace H : (portreevelaw12_AutoSends.j2 k2 a1 t810 t818 x9_4 x13_2 x14_2 x15_2 t834 t839 t830 t831 t832 t833) = some r := H
                have A31 := Aside0.mk A310
                clear A310
                have H' := Aside0.mk H
                clear H
                obtain ⟨Ao32, co32, eo32⟩ := Kd.R_slice HO836.out
                subst eo32
                go_wp2_with (first | ((with_reducible refine gate_callee (f := 20) rfl ?_); refine goesL_ (some 47) rfl rfl Tryd.func20 (by kernel_rfl) rfl #[.slice Ao32 t834.length co32, .int .i64 7] rfl (by (try simp only [List.map_toArray, List.map_cons, List.map_nil]); first | done | rfl | (simp only [List.length_drop, List.length_take]; rfl)) ?_; (with_reducible refine (portreeveref11_Has.calls k2 _ _ t834 7 false _ ?side1 ?side2 A28.out).mono ?_); (case side1 => refine (Kd.R_reads' (e := 3) (base := w.heap.size) (ok := fun k_ => True) (n := t834.length) (c := co32) ?_).2.2; exact (by (with_reducible repeat (first | apply Kd.R_alloc | apply Kd.R_drewN | apply Kd.R_drew)); exact (Kd.R_mono (Kd.R_far (p := ⟨gb837, 3, none⟩) (Kd.R_far (p := ⟨gb837, 2, none⟩) (Kd.R_far (p := ⟨gb837, 1, none⟩) (Kd.R_far (p := ⟨gb837, 0, none⟩) (Kd.R_types HO836.out BK837.out (by decide)) (fun _ hk => hk.2) (.int .i64 t830)) (fun _ hk => hk.2) (.int .i64 t831)) (fun _ hk => hk.2) (.int .i64 t832)) (fun _ hk => hk.2) (.int .u8 t833)) (fun _ h_ => h_.1)))); (case side2 => exact (Kd.R_reads' HO836.out).2.1); rintro e w' ⟨rfl, ⟨nd, rfl⟩⟩; refine ⟨_, rfl, ?_⟩) | (go_at_call 20; (with_reducible refine (portreeveref11_Has.calls k2 _ _ t834 10 t839 _ ?side1 ?side2 A31.out).mono ?_); (case side1 => refine (Kd.R_reads' (e := 3) (base := w.heap.size) (ok := fun k_ => True) (n := t834.length) (c := co32) ?_).2.2; exact (by (with_reducible repeat (first | apply Kd.R_alloc | apply Kd.R_drewN | apply Kd.R_drew)); exact (Kd.R_mono (Kd.R_far (p := ⟨gb837, 3, none⟩) (Kd.R_far (p := ⟨gb837, 2, none⟩) (Kd.R_far (p := ⟨gb837, 1, none⟩) (Kd.R_far (p := ⟨gb837, 0, none⟩) (Kd.R_types HO836.out BK837.out (by decide)) (fun _ hk => hk.2) (.int .i64 t830)) (fun _ hk => hk.2) (.int .i64 t831)) (fun _ hk => hk.2) (.int .i64 t832)) (fun _ hk => hk.2) (.int .u8 t833)) (fun _ h_ => h_.1)))); (case side2 => exact (Kd.R_reads' HO836.out).2.1); rintro e w' ⟨rfl, ⟨nd, rfl⟩⟩))
                go_meet
                case rel => exact ⟨_, (t839), (by first | rfl | (simp; done) | (simp [*]; done)), H', ⟨by have := HJ4.out; have := HK2.out; first | omega | exact Nat.le_refl _⟩, ⟨by (with_reducible repeat (first | apply Kd.R_alloc | apply Kd.R_drewN | apply Kd.R_drew)); exact Kd.R_mono (Kd.R_far (p := ⟨gb837, 3, none⟩) (Kd.R_far (p := ⟨gb837, 2, none⟩) (Kd.R_far (p := ⟨gb837, 1, none⟩) (Kd.R_far (p := ⟨gb837, 0, none⟩) (Kd.R_types HO836.out BK837.out (by decide)) (fun _ hk => hk.2) (.int .i64 t830)) (fun _ hk => hk.2) (.int .i64 t831)) (fun _ hk => hk.2) (.int .i64 t832)) (fun _ hk => hk.2) (.int .u8 t833)) (fun _ hk => trivial)⟩, ⟨by (with_reducible repeat (first | refine qN ?_ _ | refine qD ?_ | refine qA ?_ _)); refine blk_far ?_ NB819_837.out _; (with_reducible repeat (first | refine qN ?_ _ | refine qD ?_ | refine qA ?_ _)); refine blk_far ?_ NB819_837.out _; (with_reducible repeat (first | refine qN ?_ _ | refine qD ?_ | refine qA ?_ _)); refine blk_far ?_ NB819_837.out _; (with_reducible repeat (first | refine qN ?_ _ | refine qD ?_ | refine qA ?_ _)); refine blk_far ?_ NB819_837.out _; (with_reducible repeat (first | refine qN ?_ _ | refine qD ?_ | refine qA ?_ _)); exact BK819.out⟩, ⟨by (with_reducible repeat (first | refine qN ?_ _ | refine qD ?_ | refine qA ?_ _)); refine blk_put (cs := #[.int .i64 t830, .int .i64 t831, .int .i64 t832, .int .u8 0]) ?_ 3 _ rfl; (with_reducible repeat (first | refine qN ?_ _ | refine qD ?_ | refine qA ?_ _)); refine blk_put (cs := #[.int .i64 t830, .int .i64 t831, .int .i64 0, .int .u8 0]) ?_ 2 _ rfl; (with_reducible repeat (first | refine qN ?_ _ | refine qD ?_ | refine qA ?_ _)); refine blk_put (cs := #[.int .i64 t830, .int .i64 0, .int .i64 0, .int .u8 0]) ?_ 1 _ rfl; (with_reducible repeat (first | refine qN ?_ _ | refine qD ?_ | refine qA ?_ _)); refine blk_put (cs := #[.int .i64 0, .int .i64 0, .int .i64 0, .int .u8 0]) ?_ 0 _ rfl; (with_reducible repeat (first | refine qN ?_ _ | refine qD ?_ | refine qA ?_ _)); exact BK837.out⟩, ⟨by repeat (first | (with_reducible first | exact HB.out | apply pA | apply pN | apply pD | refine pS ?_ GE819.out | refine pS ?_ GE837.out) | exact HB.out)⟩⟩
            case rest =>
              clear HC22
              try clear c1
              try clear c2
              try clear p2
              try clear c8
              try clear c9
              try clear c10
              try clear c12
              try clear c12b0
              try clear c12b1
              try clear c13
              try clear c15
              try clear c16
              try clear c20
              try clear c20b0
              try clear c26
              try clear c29
              try clear hcz13_0
              try clear hcz13_1
              try clear hcz13_2
              try clear hcz13_3
              try clear hcz17_0
              try clear hcz17_1
              try clear hcz17_2
              try clear hcz17_3
              try clear hcz18_0
              try clear hcz18_1
              try clear hcz18_2
              try clear hcz18_3
              try clear hcz23_0
              try clear hcz23_1
              try clear hcz23_2
              try clear hcz23_3
              try clear hcz27_0
              try clear hcz27_1
              try clear hcz27_2
              try clear hcz27_3
              try clear hcz9_0
              try clear hcz9_1
              try clear hcz9_2
              try clear hcz9_3
              try clear hfz13_0
              try clear hfz13_1
              try clear hfz13_2
              try clear hfz13_3
              try clear hfz17_0
              try clear hfz17_1
              try clear hfz17_2
              try clear hfz17_3
              try clear hfz18_0
              try clear hfz18_1
              try clear hfz18_2
              try clear hfz18_3
              try clear hfz23_0
              try clear hfz23_1
              try clear hfz23_2
              try clear hfz23_3
              try clear hfz27_0
              try clear hfz27_1
              try clear hfz27_2
              try clear hfz27_3
              try clear hfz9_0
              try clear hfz9_1
              try clear hfz9_2
              try clear hfz9_3
              try clear p2
              obtain ⟨kq, x51_21, rfl, HA, HJ21, HO_17, BK819, BK837, HB⟩ := hcut
              cases kq with
              | zero => exact absurd HA.out (by simp [portreevelaw12_AutoSends.j2])
              | succ kj21 =>
                have H := HA.out
                clear HA
                simp only [portreevelaw12_AutoSends.j2] at H
                have HC33 := Aside0.mk H
                clear H
                go_upto_if 51 with (fail)
                go_cut [13] (fun v13 wc => ∃ (kq : Nat) (x13_32 : Int), v13 = .int .i64 x13_32 ∧ Aside0 (portreevelaw12_AutoSends.j3 kq a1 t810 t818 x9_4 x13_32 x14_2 x15_2 t834 t830 t831 t832 t833 = some r) ∧ Aside0 (kq ≤ kj21) ∧ Aside0 (Kd.R (Kd.int .i64) 3 wc w.heap.size (fun _ => True) v835 t834) ∧ Aside0 (wc.heap[gb819]? = some (.cells #[.int .i64 x820000_2, .int .i64 x820001_2, .int .i64 x820002_2, .int .u8 x820003_2] 23 (0, 0))) ∧ Aside0 (wc.heap[gb837]? = some (.cells #[.int .i64 t830, .int .i64 t831, .int .i64 t832, .int .u8 t833] 23 (0, 0))) ∧ Aside0 (Below w.heap.size w wc))
                case first =>
                  have H := HC33.out
                  clear HC33
                  by_cases c34 : x51_21 = true
                  · subst c34
                    have H1 : (portreevelaw12_AutoSends.j3 kj21 a1 t810 t818 x9_4 (wrap64 (x13_2 + 1)) x14_2 x15_2 t834 t830 t831 t832 t833) = some r := by rw [if_pos rfl] at H; exact H
                    clear H
                    have H := H1
                    clear H1
                    have H' := Aside0.mk H
                    clear H
                    go_wp2
                    go_meet
                    case rel => exact ⟨_, (wrap64 (x13_2 + 1)), (by first | rfl | (simp; done) | (simp [*]; done)), H', ⟨by have := HJ4.out; have := HK2.out; have := HJ21.out; first | omega | exact Nat.le_refl _⟩, ⟨by (with_reducible repeat (first | apply Kd.R_alloc | apply Kd.R_drewN | apply Kd.R_drew)); exact HO_17.out⟩, ⟨by (with_reducible repeat (first | refine qN ?_ _ | refine qD ?_ | refine qA ?_ _)); exact BK819.out⟩, ⟨by (with_reducible repeat (first | refine qN ?_ _ | refine qD ?_ | refine qA ?_ _)); exact BK837.out⟩, ⟨by repeat (first | (with_reducible first | exact HB.out | apply pA | apply pN | apply pD | refine pS ?_ GE819.out | refine pS ?_ GE837.out) | exact HB.out)⟩⟩
                  · replace c34 := Bool.eq_false_iff.mpr c34
                    subst c34
                    have H1 : (portreevelaw12_AutoSends.j3 kj21 a1 t810 t818 x9_4 x13_2 x14_2 x15_2 t834 t830 t831 t832 t833) = some r := by rw [if_neg (show ¬ (false = true) by decide)] at H; exact H
                    clear H
                    have H := H1
                    clear H1
                    have H' := Aside0.mk H
                    clear H
                    go_wp2
                    go_meet
                    case rel => exact ⟨_, (x13_2), (by first | rfl | (simp; done) | (simp [*]; done)), H', ⟨by have := HJ4.out; have := HK2.out; have := HJ21.out; first | omega | exact Nat.le_refl _⟩, ⟨by (with_reducible repeat (first | apply Kd.R_alloc | apply Kd.R_drewN | apply Kd.R_drew)); exact HO_17.out⟩, ⟨by (with_reducible repeat (first | refine qN ?_ _ | refine qD ?_ | refine qA ?_ _)); exact BK819.out⟩, ⟨by (with_reducible repeat (first | refine qN ?_ _ | refine qD ?_ | refine qA ?_ _)); exact BK837.out⟩, ⟨by repeat (first | (with_reducible first | exact HB.out | apply pA | apply pN | apply pD | refine pS ?_ GE819.out | refine pS ?_ GE837.out) | exact HB.out)⟩⟩
                case rest =>
                  clear HC33
                  try clear c1
                  try clear c2
                  try clear p2
                  try clear c3
                  try clear p6
                  try clear c8
                  try clear c9
                  try clear c10
                  try clear c12
                  try clear c12b0
                  try clear c12b1
                  try clear c13
                  try clear c15
                  try clear c16
                  try clear c20
                  try clear c20b0
                  try clear c26
                  try clear c29
                  try clear c34
                  try clear hcz13_0
                  try clear hcz13_1
                  try clear hcz13_2
                  try clear hcz13_3
                  try clear hcz17_0
                  try clear hcz17_1
                  try clear hcz17_2
                  try clear hcz17_3
                  try clear hcz18_0
                  try clear hcz18_1
                  try clear hcz18_2
                  try clear hcz18_3
                  try clear hcz23_0
                  try clear hcz23_1
                  try clear hcz23_2
                  try clear hcz23_3
                  try clear hcz27_0
                  try clear hcz27_1
                  try clear hcz27_2
                  try clear hcz27_3
                  try clear hcz9_0
                  try clear hcz9_1
                  try clear hcz9_2
                  try clear hcz9_3
                  try clear hfz13_0
                  try clear hfz13_1
                  try clear hfz13_2
                  try clear hfz13_3
                  try clear hfz17_0
                  try clear hfz17_1
                  try clear hfz17_2
                  try clear hfz17_3
                  try clear hfz18_0
                  try clear hfz18_1
                  try clear hfz18_2
                  try clear hfz18_3
                  try clear hfz23_0
                  try clear hfz23_1
                  try clear hfz23_2
                  try clear hfz23_3
                  try clear hfz27_0
                  try clear hfz27_1
                  try clear hfz27_2
                  try clear hfz27_3
                  try clear hfz9_0
                  try clear hfz9_1
                  try clear hfz9_2
                  try clear hfz9_3
                  try clear p2
                  obtain ⟨kq, x13_32, rfl, HA, HJ32, HO_17, BK819, BK837, HB⟩ := hcut
                  cases kq with
                  | zero => exact absurd HA.out (by simp [portreevelaw12_AutoSends.j3])
                  | succ kj32 =>
                    have H := HA.out
                    clear HA
                    simp only [portreevelaw12_AutoSends.j3] at H
                    replace H := Option.bind_eq_some_iff.mp H
                    obtain ⟨t840, A350, H⟩ := H
                    replace H : (if t840 = true then (portreevelaw12_AutoSends.l0 kj32 a1 t810 t818 x9_4 x13_32 (wrap64 (x14_2 + 1)) (wrap64 (x15_2 + 1)) t830 t831 t832 t833) else (portreevelaw12_AutoSends.l0 kj32 a1 t810 t818 x9_4 x13_32 x14_2 (wrap64 (x15_2 + 1)) t830 t831 t832 t833)) = some r := H
                    have A35 := Aside0.mk A350
                    clear A350
                    by_cases c36 : t840 = true
                    · subst c36
                      have H1 : (portreevelaw12_AutoSends.l0 kj32 a1 t810 t818 x9_4 x13_32 (wrap64 (x14_2 + 1)) (wrap64 (x15_2 + 1)) t830 t831 t832 t833) = some r := by rw [if_pos rfl] at H; exact H
                      clear H
                      have H := H1
                      clear H1
                      have H' := Aside0.mk H
                      clear H
                      obtain ⟨Ao37, co37, eo37⟩ := Kd.R_slice HO_17.out
                      subst eo37
                      go_wp2_with (first | ((with_reducible refine gate_callee (f := 20) rfl ?_); refine goesL_ (some 55) rfl rfl Tryd.func20 (by kernel_rfl) rfl #[.slice Ao37 t834.length co37, .int .i64 4] rfl (by (try simp only [List.map_toArray, List.map_cons, List.map_nil]); first | done | rfl | (simp only [List.length_drop, List.length_take]; rfl)) ?_; (with_reducible refine (portreeveref11_Has.calls kj32 _ _ t834 4 true _ ?side1 ?side2 A35.out).mono ?_); (case side1 => repeat (first | exact (Kd.R_reads' HO_17.out).2.2 | (with_reducible refine Kd.C_alloc ?_ _) | (with_reducible refine Kd.C_drewN ?_ _) | (with_reducible refine Kd.C_drew ?_))); (case side2 => exact (Kd.R_reads' HO_17.out).2.1); rintro e w' ⟨rfl, ⟨nd, rfl⟩⟩; refine ⟨_, rfl, ?_⟩; (try (rw [drewN_self wc]; generalize hq_ : World.drewN wc _ = wc; have n0_ : Aside0 (Kd.R (Kd.int .i64) 3 wc w.heap.size (fun _ => True) (.slice Ao37 t834.length co37) t834) := ⟨by rw [← hq_]; exact (by (with_reducible repeat (first | apply Kd.R_alloc | apply Kd.R_drewN | apply Kd.R_drew)); exact HO_17.out)⟩; have n1_ : Aside0 (wc.heap[gb819]? = some (.cells #[.int .i64 x820000_2, .int .i64 x820001_2, .int .i64 x820002_2, .int .u8 x820003_2] 23 (0, 0))) := ⟨by rw [← hq_]; exact (by (with_reducible repeat (first | refine qN ?_ _ | refine qD ?_ | refine qA ?_ _)); exact BK819.out)⟩; have n2_ : Aside0 (wc.heap[gb837]? = some (.cells #[.int .i64 t830, .int .i64 t831, .int .i64 t832, .int .u8 t833] 23 (0, 0))) := ⟨by rw [← hq_]; exact (by (with_reducible repeat (first | refine qN ?_ _ | refine qD ?_ | refine qA ?_ _)); exact BK837.out)⟩; have n3_ : Aside0 (Below w.heap.size w wc) := ⟨by rw [← hq_]; exact (by repeat (first | (with_reducible first | exact HB.out | apply pA | apply pN | apply pD | refine pS ?_ GE819.out | refine pS ?_ GE837.out) | exact HB.out))⟩; clear HO_17 BK819 BK837 HB hq_; have HO_17 := n0_; have BK819 := n1_; have BK837 := n2_; have HB := n3_; clear n0_ n1_ n2_ n3_)); have hnb38 := NB837_819.out; have hnc38 := NB819_837.out; have hcz39_0 : wc.cell? ⟨gb837, 0, none⟩ = some (.int .i64 t830) := (blk_cell BK837.out 0).trans rfl; have hcz39_1 : wc.cell? ⟨gb837, 1, none⟩ = some (.int .i64 t831) := (blk_cell BK837.out 1).trans rfl; have hcz39_2 : wc.cell? ⟨gb837, 2, none⟩ = some (.int .i64 t832) := (blk_cell BK837.out 2).trans rfl; have hcz39_3 : wc.cell? ⟨gb837, 3, none⟩ = some (.int .u8 t833) := (blk_cell BK837.out 3).trans rfl; have hfz39_0 := blk_frozen BK837.out 0; have hfz39_1 := blk_frozen BK837.out 1; have hfz39_2 := blk_frozen BK837.out 2; have hfz39_3 := blk_frozen BK837.out 3; have hcz40_0 : wc.cell? ⟨gb819, 0, none⟩ = some (.int .i64 x820000_2) := (blk_cell BK819.out 0).trans rfl; have hcz40_1 : wc.cell? ⟨gb819, 1, none⟩ = some (.int .i64 x820001_2) := (blk_cell BK819.out 1).trans rfl; have hcz40_2 : wc.cell? ⟨gb819, 2, none⟩ = some (.int .i64 x820002_2) := (blk_cell BK819.out 2).trans rfl; have hcz40_3 : wc.cell? ⟨gb819, 3, none⟩ = some (.int .u8 x820003_2) := (blk_cell BK819.out 3).trans rfl; have hfz40_0 := blk_frozen BK819.out 0; have hfz40_1 := blk_frozen BK819.out 1; have hfz40_2 := blk_frozen BK819.out 2; have hfz40_3 := blk_frozen BK819.out 3))
                      go_roundg kj32
                      case measure => have := HJ4.out; have := HK2.out; have := HJ21.out; have := HJ32.out; omega
                      case rel => exact ⟨(x13_32), (wrap64 (x14_2 + 1)), (wrap64 (x15_2 + 1)), (t830), (t831), (t832), (t833), (by first | rfl | (simp; done) | (simp [*]; done)), (by first | rfl | (simp; done) | (simp [*]; done)), (by first | rfl | (simp; done) | (simp [*]; done)), H', ⟨by have := HJ4.out; have := HK2.out; have := HJ21.out; have := HJ32.out; omega⟩, ⟨by (with_reducible repeat (first | refine qN ?_ _ | refine qD ?_ | refine qA ?_ _)); refine blk_put (cs := #[.int .i64 t830, .int .i64 t831, .int .i64 t832, .int .u8 x820003_2]) ?_ 3 _ rfl; (with_reducible repeat (first | refine qN ?_ _ | refine qD ?_ | refine qA ?_ _)); refine blk_put (cs := #[.int .i64 t830, .int .i64 t831, .int .i64 x820002_2, .int .u8 x820003_2]) ?_ 2 _ rfl; (with_reducible repeat (first | refine qN ?_ _ | refine qD ?_ | refine qA ?_ _)); refine blk_put (cs := #[.int .i64 t830, .int .i64 x820001_2, .int .i64 x820002_2, .int .u8 x820003_2]) ?_ 1 _ rfl; (with_reducible repeat (first | refine qN ?_ _ | refine qD ?_ | refine qA ?_ _)); refine blk_put (cs := #[.int .i64 x820000_2, .int .i64 x820001_2, .int .i64 x820002_2, .int .u8 x820003_2]) ?_ 0 _ rfl; (with_reducible repeat (first | refine qN ?_ _ | refine qD ?_ | refine qA ?_ _)); exact BK819.out⟩, ⟨by repeat (first | (with_reducible first | exact HB.out | apply pA | apply pN | apply pD | refine pS ?_ GE819.out | refine pS ?_ GE837.out) | exact HB.out)⟩⟩
                    · replace c36 := Bool.eq_false_iff.mpr c36
                      subst c36
                      have H1 : (portreevelaw12_AutoSends.l0 kj32 a1 t810 t818 x9_4 x13_32 x14_2 (wrap64 (x15_2 + 1)) t830 t831 t832 t833) = some r := by rw [if_neg (show ¬ (false = true) by decide)] at H; exact H
                      clear H
                      have H := H1
                      clear H1
                      have H' := Aside0.mk H
                      clear H
                      obtain ⟨Ao41, co41, eo41⟩ := Kd.R_slice HO_17.out
                      subst eo41
                      go_wp2_with (first | ((with_reducible refine gate_callee (f := 20) rfl ?_); refine goesL_ (some 55) rfl rfl Tryd.func20 (by kernel_rfl) rfl #[.slice Ao41 t834.length co41, .int .i64 4] rfl (by (try simp only [List.map_toArray, List.map_cons, List.map_nil]); first | done | rfl | (simp only [List.length_drop, List.length_take]; rfl)) ?_; (with_reducible refine (portreeveref11_Has.calls kj32 _ _ t834 4 false _ ?side1 ?side2 A35.out).mono ?_); (case side1 => repeat (first | exact (Kd.R_reads' HO_17.out).2.2 | (with_reducible refine Kd.C_alloc ?_ _) | (with_reducible refine Kd.C_drewN ?_ _) | (with_reducible refine Kd.C_drew ?_))); (case side2 => exact (Kd.R_reads' HO_17.out).2.1); rintro e w' ⟨rfl, ⟨nd, rfl⟩⟩; refine ⟨_, rfl, ?_⟩; (try (rw [drewN_self wc]; generalize hq_ : World.drewN wc _ = wc; have n0_ : Aside0 (Kd.R (Kd.int .i64) 3 wc w.heap.size (fun _ => True) (.slice Ao41 t834.length co41) t834) := ⟨by rw [← hq_]; exact (by (with_reducible repeat (first | apply Kd.R_alloc | apply Kd.R_drewN | apply Kd.R_drew)); exact HO_17.out)⟩; have n1_ : Aside0 (wc.heap[gb819]? = some (.cells #[.int .i64 x820000_2, .int .i64 x820001_2, .int .i64 x820002_2, .int .u8 x820003_2] 23 (0, 0))) := ⟨by rw [← hq_]; exact (by (with_reducible repeat (first | refine qN ?_ _ | refine qD ?_ | refine qA ?_ _)); exact BK819.out)⟩; have n2_ : Aside0 (wc.heap[gb837]? = some (.cells #[.int .i64 t830, .int .i64 t831, .int .i64 t832, .int .u8 t833] 23 (0, 0))) := ⟨by rw [← hq_]; exact (by (with_reducible repeat (first | refine qN ?_ _ | refine qD ?_ | refine qA ?_ _)); exact BK837.out)⟩; have n3_ : Aside0 (Below w.heap.size w wc) := ⟨by rw [← hq_]; exact (by repeat (first | (with_reducible first | exact HB.out | apply pA | apply pN | apply pD | refine pS ?_ GE819.out | refine pS ?_ GE837.out) | exact HB.out))⟩; clear HO_17 BK819 BK837 HB hq_; have HO_17 := n0_; have BK819 := n1_; have BK837 := n2_; have HB := n3_; clear n0_ n1_ n2_ n3_)); have hnb42 := NB837_819.out; have hnc42 := NB819_837.out; have hcz43_0 : wc.cell? ⟨gb837, 0, none⟩ = some (.int .i64 t830) := (blk_cell BK837.out 0).trans rfl; have hcz43_1 : wc.cell? ⟨gb837, 1, none⟩ = some (.int .i64 t831) := (blk_cell BK837.out 1).trans rfl; have hcz43_2 : wc.cell? ⟨gb837, 2, none⟩ = some (.int .i64 t832) := (blk_cell BK837.out 2).trans rfl; have hcz43_3 : wc.cell? ⟨gb837, 3, none⟩ = some (.int .u8 t833) := (blk_cell BK837.out 3).trans rfl; have hfz43_0 := blk_frozen BK837.out 0; have hfz43_1 := blk_frozen BK837.out 1; have hfz43_2 := blk_frozen BK837.out 2; have hfz43_3 := blk_frozen BK837.out 3; have hcz44_0 : wc.cell? ⟨gb819, 0, none⟩ = some (.int .i64 x820000_2) := (blk_cell BK819.out 0).trans rfl; have hcz44_1 : wc.cell? ⟨gb819, 1, none⟩ = some (.int .i64 x820001_2) := (blk_cell BK819.out 1).trans rfl; have hcz44_2 : wc.cell? ⟨gb819, 2, none⟩ = some (.int .i64 x820002_2) := (blk_cell BK819.out 2).trans rfl; have hcz44_3 : wc.cell? ⟨gb819, 3, none⟩ = some (.int .u8 x820003_2) := (blk_cell BK819.out 3).trans rfl; have hfz44_0 := blk_frozen BK819.out 0; have hfz44_1 := blk_frozen BK819.out 1; have hfz44_2 := blk_frozen BK819.out 2; have hfz44_3 := blk_frozen BK819.out 3))
                      go_roundg kj32
                      case measure => have := HJ4.out; have := HK2.out; have := HJ21.out; have := HJ32.out; omega
                      case rel => exact ⟨(x13_32), (x14_2), (wrap64 (x15_2 + 1)), (t830), (t831), (t832), (t833), (by first | rfl | (simp; done) | (simp [*]; done)), (by first | rfl | (simp; done) | (simp [*]; done)), (by first | rfl | (simp; done) | (simp [*]; done)), H', ⟨by have := HJ4.out; have := HK2.out; have := HJ21.out; have := HJ32.out; omega⟩, ⟨by (with_reducible repeat (first | refine qN ?_ _ | refine qD ?_ | refine qA ?_ _)); refine blk_put (cs := #[.int .i64 t830, .int .i64 t831, .int .i64 t832, .int .u8 x820003_2]) ?_ 3 _ rfl; (with_reducible repeat (first | refine qN ?_ _ | refine qD ?_ | refine qA ?_ _)); refine blk_put (cs := #[.int .i64 t830, .int .i64 t831, .int .i64 x820002_2, .int .u8 x820003_2]) ?_ 2 _ rfl; (with_reducible repeat (first | refine qN ?_ _ | refine qD ?_ | refine qA ?_ _)); refine blk_put (cs := #[.int .i64 t830, .int .i64 x820001_2, .int .i64 x820002_2, .int .u8 x820003_2]) ?_ 1 _ rfl; (with_reducible repeat (first | refine qN ?_ _ | refine qD ?_ | refine qA ?_ _)); refine blk_put (cs := #[.int .i64 x820000_2, .int .i64 x820001_2, .int .i64 x820002_2, .int .u8 x820003_2]) ?_ 0 _ rfl; (with_reducible repeat (first | refine qN ?_ _ | refine qD ?_ | refine qA ?_ _)); exact BK819.out⟩, ⟨by repeat (first | (with_reducible first | exact HB.out | apply pA | apply pN | apply pD | refine pS ?_ GE819.out | refine pS ?_ GE837.out) | exact HB.out)⟩⟩
          · rw [if_neg c20] at H
            have c20b0 : decide (x15_2 < t829) = false := decide_eq_false c20
            clear c20
            by_cases c45 : t810 = true
            · subst c45
              have H1 : (if t818 = 0 then (if x13_2 = x9_4 then (if x14_2 = 1 then (if a1 = true then (if x820000_2 = 2 then (some true) else (some false)) else (some (x820000_2 == 3))) else (some false)) else (some false)) else (some false)) = some r := by rw [if_pos rfl] at H; exact H
              clear H
              have H := H1
              clear H1
              by_cases c46 : t818 = 0
              · rw [if_pos c46] at H
                have c46b0 : (t818 == 0) = true := beq_iff_eq.mpr c46
                have c46b1 : (t818 != 0) = false := bne_eq_false_iff_eq.mpr c46
                clear c46
                by_cases c47 : x13_2 = x9_4
                · rw [if_pos c47] at H
                  have c47b0 : (x13_2 == x9_4) = true := beq_iff_eq.mpr c47
                  have c47b1 : (x13_2 != x9_4) = false := bne_eq_false_iff_eq.mpr c47
                  clear c47
                  by_cases c48 : x14_2 = 1
                  · rw [if_pos c48] at H
                    have c48b0 : (x14_2 == 1) = true := beq_iff_eq.mpr c48
                    have c48b1 : (x14_2 != 1) = false := bne_eq_false_iff_eq.mpr c48
                    clear c48
                    by_cases c49 : a1 = true
                    · subst c49
                      have H1 : (if x820000_2 = 2 then (some true) else (some false)) = some r := by rw [if_pos rfl] at H; exact H
                      clear H
                      have H := H1
                      clear H1
                      by_cases c50 : x820000_2 = 2
                      · rw [if_pos c50] at H
                        have c50b0 : (x820000_2 == 2) = true := beq_iff_eq.mpr c50
                        have c50b1 : (x820000_2 != 2) = false := bne_eq_false_iff_eq.mpr c50
                        clear c50
                        clear hlaw_
                        obtain rfl := Option.some.inj H
                        go_wp2_with (first | ((with_reducible refine gate_callee (f := 12) rfl ?_); refine goesL_ (some 37) rfl rfl Tryd.func12 (by kernel_rfl) rfl #[] rfl (by (try simp only [List.map_toArray, List.map_cons, List.map_nil]); first | done | rfl | (simp only [List.length_drop, List.length_take]; rfl)) ?_; (with_reducible refine (auto_Bound.calls  t829 _ A19.out).mono ?_); rintro e w' ⟨rfl, ⟨nd, rfl⟩⟩; refine ⟨_, rfl, ?_⟩; have hcz51_0 : wr.cell? ⟨gb819, 0, none⟩ = some (.int .i64 x820000_2) := (blk_cell BK819.out 0).trans rfl; have hcz51_1 : wr.cell? ⟨gb819, 1, none⟩ = some (.int .i64 x820001_2) := (blk_cell BK819.out 1).trans rfl; have hcz51_2 : wr.cell? ⟨gb819, 2, none⟩ = some (.int .i64 x820002_2) := (blk_cell BK819.out 2).trans rfl; have hcz51_3 : wr.cell? ⟨gb819, 3, none⟩ = some (.int .u8 x820003_2) := (blk_cell BK819.out 3).trans rfl; have hfz51_0 := blk_frozen BK819.out 0; have hfz51_1 := blk_frozen BK819.out 1; have hfz51_2 := blk_frozen BK819.out 2; have hfz51_3 := blk_frozen BK819.out 3))
                        go_ret
                        exact ⟨by first | rfl | (simp [errW_none, errW_some] <;> rfl) | (simp [*, errW_none, errW_some] <;> rfl), by repeat (first | (with_reducible first | exact HB.out | apply pA | apply pN | apply pD | refine pS ?_ GE819.out) | exact HB.out)⟩
                      · rw [if_neg c50] at H
                        have c50b0 : (x820000_2 == 2) = false := beq_eq_false_iff_ne.mpr c50
                        have c50b1 : (x820000_2 != 2) = true := bne_iff_ne.mpr c50
                        exact absurd ((Option.some.inj H).trans hlaw_.out) (by decide)
                    · replace c49 := Bool.eq_false_iff.mpr c49
                      subst c49
                      have H1 : (some (x820000_2 == 3)) = some r := by rw [if_neg (show ¬ (false = true) by decide)] at H; exact H
                      clear H
                      have H := H1
                      clear H1
                      clear hlaw_
                      obtain rfl := Option.some.inj H
                      go_wp2_with (first | ((with_reducible refine gate_callee (f := 12) rfl ?_); refine goesL_ (some 37) rfl rfl Tryd.func12 (by kernel_rfl) rfl #[] rfl (by (try simp only [List.map_toArray, List.map_cons, List.map_nil]); first | done | rfl | (simp only [List.length_drop, List.length_take]; rfl)) ?_; (with_reducible refine (auto_Bound.calls  t829 _ A19.out).mono ?_); rintro e w' ⟨rfl, ⟨nd, rfl⟩⟩; refine ⟨_, rfl, ?_⟩; have hcz52_0 : wr.cell? ⟨gb819, 0, none⟩ = some (.int .i64 x820000_2) := (blk_cell BK819.out 0).trans rfl; have hcz52_1 : wr.cell? ⟨gb819, 1, none⟩ = some (.int .i64 x820001_2) := (blk_cell BK819.out 1).trans rfl; have hcz52_2 : wr.cell? ⟨gb819, 2, none⟩ = some (.int .i64 x820002_2) := (blk_cell BK819.out 2).trans rfl; have hcz52_3 : wr.cell? ⟨gb819, 3, none⟩ = some (.int .u8 x820003_2) := (blk_cell BK819.out 3).trans rfl; have hfz52_0 := blk_frozen BK819.out 0; have hfz52_1 := blk_frozen BK819.out 1; have hfz52_2 := blk_frozen BK819.out 2; have hfz52_3 := blk_frozen BK819.out 3))
                      go_ret
                      exact ⟨by first | rfl | (simp [errW_none, errW_some] <;> rfl) | (simp [*, errW_none, errW_some] <;> rfl), by repeat (first | (with_reducible first | exact HB.out | apply pA | apply pN | apply pD | refine pS ?_ GE819.out) | exact HB.out)⟩
                  · rw [if_neg c48] at H
                    have c48b0 : (x14_2 == 1) = false := beq_eq_false_iff_ne.mpr c48
                    have c48b1 : (x14_2 != 1) = true := bne_iff_ne.mpr c48
                    exact absurd ((Option.some.inj H).trans hlaw_.out) (by decide)
                · rw [if_neg c47] at H
                  have c47b0 : (x13_2 == x9_4) = false := beq_eq_false_iff_ne.mpr c47
                  have c47b1 : (x13_2 != x9_4) = true := bne_iff_ne.mpr c47
                  exact absurd ((Option.some.inj H).trans hlaw_.out) (by decide)
              · rw [if_neg c46] at H
                have c46b0 : (t818 == 0) = false := beq_eq_false_iff_ne.mpr c46
                have c46b1 : (t818 != 0) = true := bne_iff_ne.mpr c46
                exact absurd ((Option.some.inj H).trans hlaw_.out) (by decide)
            · replace c45 := Bool.eq_false_iff.mpr c45
              subst c45
              have H1 : (some false) = some r := by rw [if_neg (show ¬ (false = true) by decide)] at H; exact H
              clear H
              have H := H1
              clear H1
              exact absurd ((Option.some.inj H).trans hlaw_.out) (by decide)

end Go.Proofs.YtoenogjedmnnlaaDoor.Q

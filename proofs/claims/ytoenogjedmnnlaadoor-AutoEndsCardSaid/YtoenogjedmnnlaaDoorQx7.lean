-- written by this session's own program (wip/tools/myprint.py), over the kit's print
import Derived.Test.YtoenogjedmnnlaaDoorQx0
import Derived.Test.YtoenogjedmnnlaaDoorQx6
namespace Go.Proofs.YtoenogjedmnnlaaDoor.Q
open Go.RowKit Go.Proofs.YtoenogjedmnnlaaDoorW.PrintWords Go.Proofs.YtoenogjedmnnlaaDoorW.PrintLast Go.Proofs.YtoenogjedmnnlaaDoorW.PrintMore
open Go.Proofs.YtoenogjedmnnlaaDoorV Go.Proofs.YtoenogjedmnnlaaDoorG
attribute [local go_sem] max2_int min2_int max_two min_two max_three min_three max_four min_four   -- for this text's walks alone
set_option linter.unusedVariables false
set_option linter.unusedSimpArgs false

/-! ### portreeveref11_to: function 42 -/
def portreeveref11_to.f (a0 : Int) (l1 : List Int) : Option (List Int × Int × Bool) := some (l1, a0, true)
set_option maxHeartbeats 8000000 in
set_option maxRecDepth 100000 in
theorem portreeveref11_to.calls (a0 : Int) (P1_ : Nat → Prop) (A1 : Option Addr) (c1 : Nat) (l1 : List Int) (r1 : List Int) (r2 : Int) (r3 : Bool) (w : World) (hs1 : Kd.V (Kd.int .i64) 3 w w.heap.size (fun k_ => P1_ k_) (.slice A1 l1.length c1) l1) (h : portreeveref11_to.f a0 l1 = some (r1, r2, r3)) :
    Calls Tryd.prog 42 #[.int .i64 a0, .slice A1 l1.length c1] w fun e w' => ∃ v0_ : Value, e = .returned (.tuple #[v0_, .int .i64 r2, .bool r3]) ∧ Kd.V (Kd.int .i64) 3 w' w.heap.size (fun k_ => (P1_ k_ ∨ w.heap.size ≤ k_)) v0_ r1 ∧ Below w.heap.size w w' := by
  have HO1 := Aside0.mk (show Kd.V (Kd.int .i64) 3 w w.heap.size (fun k_ => (P1_ k_ ∨ w.heap.size ≤ k_)) (.slice A1 l1.length c1) l1 from Kd.V_mono hs1 (fun k_ hk => .inl hk))
  have HB := Aside0.mk (Below.refl w.heap.size w)
  have H : (some (l1, a0, true)) = some (r1, r2, r3) := h
  clear h
  simp only [Option.some.injEq, Prod.mk.injEq] at H
  obtain ⟨rfl, rfl, rfl⟩ := H
  go_enter Tryd.func42, Tryd.ntmps42
  go_wp2
  go_ret3
  exact ⟨_, by first | rfl | (simp [errW_none, errW_some] <;> rfl) | (simp [*, errW_none, errW_some] <;> rfl), by (with_reducible repeat (first | apply Kd.V_alloc | apply Kd.V_drewN | apply Kd.V_drew)); exact HO1.out, by repeat (first | (with_reducible first | exact HB.out | apply pA | apply pN | apply pD) | exact HB.out)⟩

/-! ### portreeveref11_stay: function 44 -/
def portreeveref11_stay.f (a0 : Int) : Option (List Int × Int × Bool) := some (([] : List Int), a0, true)
set_option maxHeartbeats 8000000 in
set_option maxRecDepth 100000 in
theorem portreeveref11_stay.calls (a0 : Int) (r1 : List Int) (r2 : Int) (r3 : Bool) (w : World) (h : portreeveref11_stay.f a0 = some (r1, r2, r3)) :
    Calls Tryd.prog 44 #[.int .i64 a0] w fun e w' => ∃ v0_ : Value, e = .returned (.tuple #[v0_, .int .i64 r2, .bool r3]) ∧ Kd.R (Kd.int .i64) 3 w' w.heap.size (fun _ => True) v0_ r1 ∧ Below w.heap.size w w' := by
  have HB := Aside0.mk (Below.refl w.heap.size w)
  have H : (some (([] : List Int), a0, true)) = some (r1, r2, r3) := h
  clear h
  simp only [Option.some.injEq, Prod.mk.injEq] at H
  obtain ⟨rfl, rfl, rfl⟩ := H
  go_enter Tryd.func44, Tryd.ntmps44
  go_wp2
  go_ret3
  exact ⟨_, by first | rfl | (simp [errW_none, errW_some] <;> rfl) | (simp [*, errW_none, errW_some] <;> rfl), by first | exact Kd.R_nil _ _ _ _ _ | exact Kd.N_nil _ _ _ _ _ | exact Kd.V_nil _ _ _ _ _ | exact Kd.Q_nil _ _ _ _ _ | exact Kd.S_nil _ _ _ _ _, by repeat (first | (with_reducible first | exact HB.out | apply pA | apply pN | apply pD) | exact HB.out)⟩

/-! ### portreeveref11_up: function 33 -/
def portreeveref11_up.f (a0 : Int) : Option (List Int × Int × Bool) := if a0 = 0 then ((portreeveref11_stay.f 2).bind fun bt165 => (some (bt165.1, bt165.2.1, bt165.2.2))) else (if a0 = 1 then ((portreeveref11_to.f 6 (([5, 7] : List Int))).bind fun bt173 => (some (bt173.1, bt173.2.1, bt173.2.2))) else ((portreeveref11_never.f a0).bind fun bt178 => (some (bt178.1, bt178.2.1, bt178.2.2))))
set_option maxHeartbeats 8000000 in
set_option maxRecDepth 100000 in
theorem portreeveref11_up.calls (a0 : Int) (r1 : List Int) (r2 : Int) (r3 : Bool) (w : World) (h : portreeveref11_up.f a0 = some (r1, r2, r3)) :
    Calls Tryd.prog 33 #[.int .i64 a0] w fun e w' => ∃ v0_ : Value, e = .returned (.tuple #[v0_, .int .i64 r2, .bool r3]) ∧ Kd.V (Kd.int .i64) 3 w' w.heap.size (fun k_ => (w.heap.size ≤ k_)) v0_ r1 ∧ Below w.heap.size w w' := by
  have HB := Aside0.mk (Below.refl w.heap.size w)
  have H : (if a0 = 0 then ((portreeveref11_stay.f 2).bind fun bt165 => (some (bt165.1, bt165.2.1, bt165.2.2))) else (if a0 = 1 then ((portreeveref11_to.f 6 (([5, 7] : List Int))).bind fun bt173 => (some (bt173.1, bt173.2.1, bt173.2.2))) else ((portreeveref11_never.f a0).bind fun bt178 => (some (bt178.1, bt178.2.1, bt178.2.2))))) = some (r1, r2, r3) := h
  clear h
  by_cases c2 : a0 = 0
  · rw [if_pos c2] at H
    have c2b0 : (a0 == 0) = true := beq_iff_eq.mpr c2
    have c2b1 : (a0 != 0) = false := bne_eq_false_iff_eq.mpr c2
    clear c2
    replace H := Option.bind_eq_some_iff.mp H
    obtain ⟨⟨t165, t166, t167⟩, A30, H⟩ := H
    replace H : (some (t165, t166, t167)) = some (r1, r2, r3) := H
    have A3 := Aside0.mk A30
    clear A30
    simp only [Option.some.injEq, Prod.mk.injEq] at H
    obtain ⟨rfl, rfl, rfl⟩ := H
    go_enter Tryd.func33, Tryd.ntmps33
    go_wp2_with (first | ((with_reducible refine gate_callee (f := 44) rfl ?_); refine goesL_ (some 7) rfl rfl Tryd.func44 (by kernel_rfl) rfl #[.int .i64 2] rfl (by (try simp only [List.map_toArray, List.map_cons, List.map_nil]); first | done | rfl | (simp only [List.length_drop, List.length_take]; rfl)) ?_; (with_reducible refine (portreeveref11_stay.calls 2 t165 t166 t167 _ A3.out).mono ?_); rintro e w4 ⟨v168, rfl, ho0, hb⟩; refine ⟨_, rfl, ?_⟩; have n0_ := Aside0.mk (Kd.R_lower (Kd.R_newM (M := fun k_ => (w.heap.size ≤ k_)) ho0 (below_size (by repeat (first | (with_reducible first | exact HB.out | apply pA | apply pN | apply pD) | exact HB.out))) (fun k_ h_ => h_)) (below_size (by repeat (first | (with_reducible first | exact HB.out | apply pA | apply pN | apply pD) | exact HB.out)))); have n1_ := Aside0.mk (below_step (by repeat (first | (with_reducible first | exact HB.out | apply pA | apply pN | apply pD) | exact HB.out)) hb); clear HB; have HO169 := n0_; have HB := n1_; clear n0_ n1_; (try clear hb); (try clear hb2); (try clear hk); (try clear hi); (try clear ho0)))
    go_ret3
    exact ⟨_, by first | rfl | (simp [errW_none, errW_some] <;> rfl) | (simp [*, errW_none, errW_some] <;> rfl), Kd.R_V (by (with_reducible repeat (first | apply Kd.R_alloc | apply Kd.R_drewN | apply Kd.R_drew)); exact Kd.R_mono HO169.out (fun _ hk => hk.1)), by repeat (first | (with_reducible first | exact HB.out | apply pA | apply pN | apply pD) | exact HB.out)⟩
  · rw [if_neg c2] at H
    have c2b0 : (a0 == 0) = false := beq_eq_false_iff_ne.mpr c2
    have c2b1 : (a0 != 0) = true := bne_iff_ne.mpr c2
    by_cases c5 : a0 = 1
    · rw [if_pos c5] at H
      have c5b0 : (a0 == 1) = true := beq_iff_eq.mpr c5
      have c5b1 : (a0 != 1) = false := bne_eq_false_iff_eq.mpr c5
      clear c5
      obtain ⟨y170, hy170⟩ : ∃ y_ : List Int, y_ = (([5, 7] : List Int)) := ⟨_, rfl⟩
      replace H : ((portreeveref11_to.f 6 y170).bind fun bt173 => (some (bt173.1, bt173.2.1, bt173.2.2))) = some (r1, r2, r3) := by first | (rw [hy170]; with_reducible exact H) | (have H2_ := (Option.bind_some _ _).symm.trans H; rw [hy170]; with_reducible exact H2_) | (have H2_ := (Option.bind_some _ _).symm.trans H; with_reducible exact H2_) | with_reducible exact H | (rw [hy170]; exact H) | exact H
      have Ny170 := Aside0.mk hy170
      clear hy170
      replace H := Option.bind_eq_some_iff.mp H
      obtain ⟨⟨t173, t176, t177⟩, A60, H⟩ := H
      replace H : (some (t173, t176, t177)) = some (r1, r2, r3) := H
      have A6 := Aside0.mk A60
      clear A60
      simp only [Option.some.injEq, Prod.mk.injEq] at H
      obtain ⟨rfl, rfl, rfl⟩ := H
      go_enter Tryd.func33, Tryd.ntmps33
      go_wp2_with (first | ((with_reducible refine gate_dst (N := 13) rfl ?_); refine Kd.R_lit (Kd.int .i64) _ 3 ?hg (N := 13) ?hd (xs := ([5, 7] : List Int)) (inner := [.int .i64 5, .int .i64 7]) (ok := fun _ => True) (okp := fun _ => True) ?hr ?hp (fun _ hk => hk) trivial (Below.refl _ _) (Nat.le_refl _) (by simp) ?_; (case hd => rfl); (case hg => rfl); (case hr => first | (go_simp; done) | (go_simp; rfl)); (case hp => exact (Reps.one (show Kd.M (Kd.int .i64) _ _ _ 5 [.int .i64 5] from rfl) (Reps.one (show Kd.M (Kd.int .i64) _ _ _ 7 [.int .i64 7] from rfl) (Reps.none _ _)))); intro v171 w7 ho8 hb hg_ hnew_; clear hg_ hnew_; (first | rw [← Ny170.out] at ho8 | (simp only [Int.reduceToNat] at ho8; rw [← Ny170.out] at ho8)); have n0_ := Aside0.mk (Kd.R_lower (Kd.R_newM (M := fun k_ => (w.heap.size ≤ k_)) ho8 (below_size (by repeat (first | (with_reducible first | exact HB.out | apply pA | apply pN | apply pD) | exact HB.out))) (fun k_ h_ => h_)) (below_size (by repeat (first | (with_reducible first | exact HB.out | apply pA | apply pN | apply pD) | exact HB.out)))); have n1_ := Aside0.mk (below_step (by repeat (first | (with_reducible first | exact HB.out | apply pA | apply pN | apply pD) | exact HB.out)) hb); clear HB; have HO172 := n0_; have HB := n1_; clear n0_ n1_; clear hb ho8; obtain ⟨Ao9, co9, eo9⟩ := Kd.R_slice HO172.out; subst eo9) | ((with_reducible refine gate_callee (f := 42) rfl ?_); refine goesL_ (some 14) rfl rfl Tryd.func42 (by kernel_rfl) rfl #[.int .i64 6, .slice Ao9 y170.length co9] rfl (by (try simp only [List.map_toArray, List.map_cons, List.map_nil]); first | done | rfl | (simp only [List.length_drop, List.length_take]; rfl)) ?_; (with_reducible refine (portreeveref11_to.calls 6 (fun k_ => some k_ = (.slice Ao9 y170.length co9 : Value).ownBlock) _ _ y170 t173 t176 t177 _ ?side1 A6.out).mono ?_); (case side1 => exact Kd.R_V (Kd.R_tight rfl (HO172.out))); rintro e w10 ⟨v174, rfl, ho0, hb⟩; refine ⟨_, rfl, ?_⟩; have n0_ := Aside0.mk (Kd.R_below (by (with_reducible repeat (first | apply Kd.R_alloc | apply Kd.R_drewN | apply Kd.R_drew)); exact HO172.out) hb); have n1_ := Aside0.mk (Kd.V_lower (Kd.V_mono (ok' := fun k_ => (w.heap.size ≤ k_)) ho0 (fun k_ hk_ => Or.elim hk_ (fun hs_ => ((HO172.out).1 k_ hs_.symm).1) (fun hn_ => (Nat.le_trans (below_size (by repeat (first | (with_reducible first | exact HB.out | apply pA | apply pN | apply pD) | exact HB.out))) hn_)))) (below_size (by repeat (first | (with_reducible first | exact HB.out | apply pA | apply pN | apply pD) | exact HB.out)))); have n2_ := Aside0.mk (below_step (by repeat (first | (with_reducible first | exact HB.out | apply pA | apply pN | apply pD) | exact HB.out)) hb); clear HO172; clear HB; have HO172 := n0_; have HO175 := n1_; have HB := n2_; clear n0_ n1_ n2_; (try clear hb); (try clear hb2); (try clear hk); (try clear hi); (try clear ho0)))
      go_ret3
      exact ⟨_, by first | rfl | (simp [errW_none, errW_some] <;> rfl) | (simp [*, errW_none, errW_some] <;> rfl), by (with_reducible repeat (first | apply Kd.V_alloc | apply Kd.V_drewN | apply Kd.V_drew)); exact HO175.out, by repeat (first | (with_reducible first | exact HB.out | apply pA | apply pN | apply pD) | exact HB.out)⟩
    · rw [if_neg c5] at H
      have c5b0 : (a0 == 1) = false := beq_eq_false_iff_ne.mpr c5
      have c5b1 : (a0 != 1) = true := bne_iff_ne.mpr c5
      replace H := Option.bind_eq_some_iff.mp H
      obtain ⟨⟨t178, t179, t180⟩, A110, H⟩ := H
      replace H : (some (t178, t179, t180)) = some (r1, r2, r3) := H
      have A11 := Aside0.mk A110
      clear A110
      simp only [Option.some.injEq, Prod.mk.injEq] at H
      obtain ⟨rfl, rfl, rfl⟩ := H
      go_enter Tryd.func33, Tryd.ntmps33
      go_wp2_with (first | ((with_reducible refine gate_callee (f := 32) rfl ?_); refine goesL_ (some 19) rfl rfl Tryd.func32 (by kernel_rfl) rfl #[.int .i64 a0] rfl (by (try simp only [List.map_toArray, List.map_cons, List.map_nil]); first | done | rfl | (simp only [List.length_drop, List.length_take]; rfl)) ?_; (with_reducible refine (portreeveref11_never.calls a0 t178 t179 t180 _ A11.out).mono ?_); rintro e w12 ⟨v181, rfl, ho0, hb⟩; refine ⟨_, rfl, ?_⟩; have n0_ := Aside0.mk (Kd.R_lower (Kd.R_newM (M := fun k_ => (w.heap.size ≤ k_)) ho0 (below_size (by repeat (first | (with_reducible first | exact HB.out | apply pA | apply pN | apply pD) | exact HB.out))) (fun k_ h_ => h_)) (below_size (by repeat (first | (with_reducible first | exact HB.out | apply pA | apply pN | apply pD) | exact HB.out)))); have n1_ := Aside0.mk (below_step (by repeat (first | (with_reducible first | exact HB.out | apply pA | apply pN | apply pD) | exact HB.out)) hb); clear HB; have HO182 := n0_; have HB := n1_; clear n0_ n1_; (try clear hb); (try clear hb2); (try clear hk); (try clear hi); (try clear ho0)))
      go_ret3
      exact ⟨_, by first | rfl | (simp [errW_none, errW_some] <;> rfl) | (simp [*, errW_none, errW_some] <;> rfl), Kd.R_V (by (with_reducible repeat (first | apply Kd.R_alloc | apply Kd.R_drewN | apply Kd.R_drew)); exact Kd.R_mono HO182.out (fun _ hk => hk.1)), by repeat (first | (with_reducible first | exact HB.out | apply pA | apply pN | apply pD) | exact HB.out)⟩

/-! ### portreeveref11_down: function 34 -/
mutual
def portreeveref11_down.j0 : Nat → Int → Int → Bool → Option (List Int × Int × Bool)
  | 0, _, _, _ => none
  | k + 1, x0, x5, x6 => if x6 = true then ((portreeveref11_never.f x0).bind fun bt183 => (some (bt183.1, bt183.2.1, bt183.2.2))) else (if x5 = 2 then (portreeveref11_down.j1 k x5 (x5 == 2)) else (portreeveref11_down.j1 k x5 (x5 == 4)))
def portreeveref11_down.j1 : Nat → Int → Bool → Option (List Int × Int × Bool)
  | 0, _, _ => none
  | k + 1, x5, x14 => if x14 = true then ((portreeveref11_stay.f 0).bind fun bt188 => (some (bt188.1, bt188.2.1, bt188.2.2))) else (if x5 = 3 then ((portreeveref11_to.f 1 (([3] : List Int))).bind fun bt196 => (some (bt196.1, bt196.2.1, bt196.2.2))) else (if x5 = 9 then ((portreeveref11_to.f 1 (([2] : List Int))).bind fun bt204 => (some (bt204.1, bt204.2.1, bt204.2.2))) else ((portreeveref11_stay.f 1).bind fun bt209 => (some (bt209.1, bt209.2.1, bt209.2.2)))))
end
def portreeveref11_down.f (k : Nat) (a0 : Int) : Option (List Int × Int × Bool) := if a0 = 0 then (portreeveref11_down.j0 k a0 a0 (a0 == 0)) else (portreeveref11_down.j0 k a0 a0 (a0 == 1))
theorem portreeveref11_down.mono_l : ∀ k, (∀ y0 y1 y2, LeO (portreeveref11_down.j0 k y0 y1 y2) (portreeveref11_down.j0 (k + 1) y0 y1 y2)) ∧ (∀ y0 y1, LeO (portreeveref11_down.j1 k y0 y1) (portreeveref11_down.j1 (k + 1) y0 y1))
  | 0 => ⟨fun _ _ _ r h => by simp [portreeveref11_down.j0] at h, fun _ _ r h => by simp [portreeveref11_down.j1] at h⟩
  | k + 1 => by
    obtain ⟨ih0, ih1⟩ := portreeveref11_down.mono_l k
    refine ⟨?_, ?_⟩
    · intro y0 y1 y2
      unfold portreeveref11_down.j0
      repeat' first
      | (with_reducible exact ih0 _ _ _)
      | (with_reducible exact ih1 _ _)
      | (with_reducible exact LeO.refl _)
      | (with_reducible exact LeO.none _)
      | (with_reducible refine LeO.ite ?_ ?_)
      | (with_reducible refine LeO.bind ?_ (fun _ => ?_))
      | exact ih0 _ _ _
      | exact ih1 _ _
      | exact LeO.none _
      | refine LeO.ite ?_ ?_
      | refine LeO.bind ?_ (fun _ => ?_)
    · intro y0 y1
      unfold portreeveref11_down.j1
      repeat' first
      | (with_reducible exact ih0 _ _ _)
      | (with_reducible exact ih1 _ _)
      | (with_reducible exact LeO.refl _)
      | (with_reducible exact LeO.none _)
      | (with_reducible refine LeO.ite ?_ ?_)
      | (with_reducible refine LeO.bind ?_ (fun _ => ?_))
      | exact ih0 _ _ _
      | exact ih1 _ _
      | exact LeO.none _
      | refine LeO.ite ?_ ?_
      | refine LeO.bind ?_ (fun _ => ?_)
theorem portreeveref11_down.mono : ∀ a0 k, LeO (portreeveref11_down.f k a0) (portreeveref11_down.f (k + 1) a0) := by
  intro a0 k
  obtain ⟨ih0, ih1⟩ := portreeveref11_down.mono_l k
  unfold portreeveref11_down.f
  repeat' first
      | (with_reducible exact ih0 _ _ _)
      | (with_reducible exact ih1 _ _)
      | (with_reducible exact LeO.refl _)
      | (with_reducible exact LeO.none _)
      | (with_reducible refine LeO.ite ?_ ?_)
      | (with_reducible refine LeO.bind ?_ (fun _ => ?_))
      | exact ih0 _ _ _
      | exact ih1 _ _
      | exact LeO.none _
      | refine LeO.ite ?_ ?_
      | refine LeO.bind ?_ (fun _ => ?_)
set_option maxHeartbeats 8000000 in
set_option maxRecDepth 100000 in
theorem portreeveref11_down.calls (k : Nat) (a0 : Int) (r1 : List Int) (r2 : Int) (r3 : Bool) (w : World) (h : portreeveref11_down.f k a0 = some (r1, r2, r3)) :
    Calls Tryd.prog 34 #[.int .i64 a0] w fun e w' => ∃ v0_ : Value, e = .returned (.tuple #[v0_, .int .i64 r2, .bool r3]) ∧ Kd.V (Kd.int .i64) 3 w' w.heap.size (fun k_ => (w.heap.size ≤ k_)) v0_ r1 ∧ Below w.heap.size w w' := by
  have HB := Aside0.mk (Below.refl w.heap.size w)
  have H : (if a0 = 0 then (portreeveref11_down.j0 k a0 a0 (a0 == 0)) else (portreeveref11_down.j0 k a0 a0 (a0 == 1))) = some (r1, r2, r3) := h
  clear h
  have HC2 := Aside0.mk H
  clear H
  go_enter Tryd.func34, Tryd.ntmps34
  go_upto_if 6 with (fail)
  go_cut [6] (fun v6 wc => ∃ (kq : Nat) (x6_1 : Bool), v6 = .bool x6_1 ∧ Aside0 (portreeveref11_down.j0 kq a0 a0 x6_1 = some (r1, r2, r3)) ∧ Aside0 (kq ≤ k) ∧ Aside0 (Below w.heap.size w wc))
  case first =>
    have H := HC2.out
    clear HC2
    by_cases c3 : a0 = 0
    · rw [if_pos c3] at H
      have c3b0 : (a0 == 0) = true := beq_iff_eq.mpr c3
      have c3b1 : (a0 != 0) = false := bne_eq_false_iff_eq.mpr c3
      clear c3
      (first | rw [c3b0] | (simp only [i64_w, i32_w]; rw [c3b0]) | skip)
      have H' := Aside0.mk H
      clear H
      go_wp2
      go_meet
      case rel => exact ⟨_, ((a0 == 0)), (by first | rfl | (simp; done) | (simp [*]; done)), H', ⟨by first | omega | exact Nat.le_refl _⟩, ⟨by repeat (first | (with_reducible first | exact HB.out | apply pA | apply pN | apply pD) | exact HB.out)⟩⟩
    · rw [if_neg c3] at H
      have c3b0 : (a0 == 0) = false := beq_eq_false_iff_ne.mpr c3
      have c3b1 : (a0 != 0) = true := bne_iff_ne.mpr c3
      (first | rw [c3b0] | (simp only [i64_w, i32_w]; rw [c3b0]) | skip)
      have H' := Aside0.mk H
      clear H
      go_wp2
      go_meet
      case rel => exact ⟨_, ((a0 == 1)), (by first | rfl | (simp; done) | (simp [*]; done)), H', ⟨by first | omega | exact Nat.le_refl _⟩, ⟨by repeat (first | (with_reducible first | exact HB.out | apply pA | apply pN | apply pD) | exact HB.out)⟩⟩
  case rest =>
    clear HC2
    try clear p2
    try clear c3
    try clear c3b0
    try clear c3b1
    obtain ⟨kq, x6_1, rfl, HA, HJ1, HB⟩ := hcut
    cases kq with
    | zero => exact absurd HA.out (by simp [portreeveref11_down.j0])
    | succ kj1 =>
      have H := HA.out
      clear HA
      simp only [portreeveref11_down.j0] at H
      by_cases c4 : x6_1 = true
      · subst c4
        have H1 : ((portreeveref11_never.f a0).bind fun bt183 => (some (bt183.1, bt183.2.1, bt183.2.2))) = some (r1, r2, r3) := by rw [if_pos rfl] at H; exact H
        clear H
        have H := H1
        clear H1
        replace H := Option.bind_eq_some_iff.mp H
        obtain ⟨⟨t183, t184, t185⟩, A50, H⟩ := H
        replace H : (some (t183, t184, t185)) = some (r1, r2, r3) := H
        have A5 := Aside0.mk A50
        clear A50
        simp only [Option.some.injEq, Prod.mk.injEq] at H
        obtain ⟨rfl, rfl, rfl⟩ := H
        go_wp2_with (first | ((with_reducible refine gate_callee (f := 32) rfl ?_); refine goesL_ (some 10) rfl rfl Tryd.func32 (by kernel_rfl) rfl #[.int .i64 a0] rfl (by (try simp only [List.map_toArray, List.map_cons, List.map_nil]); first | done | rfl | (simp only [List.length_drop, List.length_take]; rfl)) ?_; (with_reducible refine (portreeveref11_never.calls a0 t183 t184 t185 _ A5.out).mono ?_); rintro e w6 ⟨v186, rfl, ho0, hb⟩; refine ⟨_, rfl, ?_⟩; have n0_ := Aside0.mk (Kd.R_lower (Kd.R_newM (M := fun k_ => (w.heap.size ≤ k_)) ho0 (below_size (by repeat (first | (with_reducible first | exact HB.out | apply pA | apply pN | apply pD) | exact HB.out))) (fun k_ h_ => h_)) (below_size (by repeat (first | (with_reducible first | exact HB.out | apply pA | apply pN | apply pD) | exact HB.out)))); have n1_ := Aside0.mk (below_step (by repeat (first | (with_reducible first | exact HB.out | apply pA | apply pN | apply pD) | exact HB.out)) hb); clear HB; have HO187 := n0_; have HB := n1_; clear n0_ n1_; (try clear hb); (try clear hb2); (try clear hk); (try clear hi); (try clear ho0)))
        go_ret3
        exact ⟨_, by first | rfl | (simp [errW_none, errW_some] <;> rfl) | (simp [*, errW_none, errW_some] <;> rfl), Kd.R_V (by (with_reducible repeat (first | apply Kd.R_alloc | apply Kd.R_drewN | apply Kd.R_drew)); exact Kd.R_mono HO187.out (fun _ hk => hk.1)), by repeat (first | (with_reducible first | exact HB.out | apply pA | apply pN | apply pD) | exact HB.out)⟩
      · replace c4 := Bool.eq_false_iff.mpr c4
        subst c4
        have H1 : (if a0 = 2 then (portreeveref11_down.j1 kj1 a0 (a0 == 2)) else (portreeveref11_down.j1 kj1 a0 (a0 == 4))) = some (r1, r2, r3) := by rw [if_neg (show ¬ (false = true) by decide)] at H; exact H
        clear H
        have H := H1
        clear H1
        have HC7 := Aside0.mk H
        clear H
        go_upto_if 14 with (fail)
        go_cut [14] (fun v14 wc => ∃ (kq : Nat) (x14_6 : Bool), v14 = .bool x14_6 ∧ Aside0 (portreeveref11_down.j1 kq a0 x14_6 = some (r1, r2, r3)) ∧ Aside0 (kq ≤ kj1) ∧ Aside0 (Below w.heap.size w wc))
        case first =>
          have H := HC7.out
          clear HC7
          by_cases c8 : a0 = 2
          · rw [if_pos c8] at H
            have c8b0 : (a0 == 2) = true := beq_iff_eq.mpr c8
            have c8b1 : (a0 != 2) = false := bne_eq_false_iff_eq.mpr c8
            clear c8
            (first | rw [c8b0] | (simp only [i64_w, i32_w]; rw [c8b0]) | skip)
            have H' := Aside0.mk H
            clear H
            go_wp2
            go_meet
            case rel => exact ⟨_, ((a0 == 2)), (by first | rfl | (simp; done) | (simp [*]; done)), H', ⟨by have := HJ1.out; first | omega | exact Nat.le_refl _⟩, ⟨by repeat (first | (with_reducible first | exact HB.out | apply pA | apply pN | apply pD) | exact HB.out)⟩⟩
          · rw [if_neg c8] at H
            have c8b0 : (a0 == 2) = false := beq_eq_false_iff_ne.mpr c8
            have c8b1 : (a0 != 2) = true := bne_iff_ne.mpr c8
            (first | rw [c8b0] | (simp only [i64_w, i32_w]; rw [c8b0]) | skip)
            have H' := Aside0.mk H
            clear H
            go_wp2
            go_meet
            case rel => exact ⟨_, ((a0 == 4)), (by first | rfl | (simp; done) | (simp [*]; done)), H', ⟨by have := HJ1.out; first | omega | exact Nat.le_refl _⟩, ⟨by repeat (first | (with_reducible first | exact HB.out | apply pA | apply pN | apply pD) | exact HB.out)⟩⟩
        case rest =>
          clear HC7
          try clear p2
          try clear c3
          try clear c3b0
          try clear c3b1
          try clear c4
          try clear c8
          try clear c8b0
          try clear c8b1
          try clear p2
          obtain ⟨kq, x14_6, rfl, HA, HJ6, HB⟩ := hcut
          cases kq with
          | zero => exact absurd HA.out (by simp [portreeveref11_down.j1])
          | succ kj6 =>
            have H := HA.out
            clear HA
            simp only [portreeveref11_down.j1] at H
            by_cases c9 : x14_6 = true
            · subst c9
              have H1 : ((portreeveref11_stay.f 0).bind fun bt188 => (some (bt188.1, bt188.2.1, bt188.2.2))) = some (r1, r2, r3) := by rw [if_pos rfl] at H; exact H
              clear H
              have H := H1
              clear H1
              replace H := Option.bind_eq_some_iff.mp H
              obtain ⟨⟨t188, t189, t190⟩, A100, H⟩ := H
              replace H : (some (t188, t189, t190)) = some (r1, r2, r3) := H
              have A10 := Aside0.mk A100
              clear A100
              simp only [Option.some.injEq, Prod.mk.injEq] at H
              obtain ⟨rfl, rfl, rfl⟩ := H
              go_wp2_with (first | ((with_reducible refine gate_callee (f := 44) rfl ?_); refine goesL_ (some 17) rfl rfl Tryd.func44 (by kernel_rfl) rfl #[.int .i64 0] rfl (by (try simp only [List.map_toArray, List.map_cons, List.map_nil]); first | done | rfl | (simp only [List.length_drop, List.length_take]; rfl)) ?_; (with_reducible refine (portreeveref11_stay.calls 0 t188 t189 t190 _ A10.out).mono ?_); rintro e w11 ⟨v191, rfl, ho0, hb⟩; refine ⟨_, rfl, ?_⟩; have n0_ := Aside0.mk (Kd.R_lower (Kd.R_newM (M := fun k_ => (w.heap.size ≤ k_)) ho0 (below_size (by repeat (first | (with_reducible first | exact HB.out | apply pA | apply pN | apply pD) | exact HB.out))) (fun k_ h_ => h_)) (below_size (by repeat (first | (with_reducible first | exact HB.out | apply pA | apply pN | apply pD) | exact HB.out)))); have n1_ := Aside0.mk (below_step (by repeat (first | (with_reducible first | exact HB.out | apply pA | apply pN | apply pD) | exact HB.out)) hb); clear HB; have HO192 := n0_; have HB := n1_; clear n0_ n1_; (try clear hb); (try clear hb2); (try clear hk); (try clear hi); (try clear ho0)))
              go_ret3
              exact ⟨_, by first | rfl | (simp [errW_none, errW_some] <;> rfl) | (simp [*, errW_none, errW_some] <;> rfl), Kd.R_V (by (with_reducible repeat (first | apply Kd.R_alloc | apply Kd.R_drewN | apply Kd.R_drew)); exact Kd.R_mono HO192.out (fun _ hk => hk.1)), by repeat (first | (with_reducible first | exact HB.out | apply pA | apply pN | apply pD) | exact HB.out)⟩
            · replace c9 := Bool.eq_false_iff.mpr c9
              subst c9
              have H1 : (if a0 = 3 then ((portreeveref11_to.f 1 (([3] : List Int))).bind fun bt196 => (some (bt196.1, bt196.2.1, bt196.2.2))) else (if a0 = 9 then ((portreeveref11_to.f 1 (([2] : List Int))).bind fun bt204 => (some (bt204.1, bt204.2.1, bt204.2.2))) else ((portreeveref11_stay.f 1).bind fun bt209 => (some (bt209.1, bt209.2.1, bt209.2.2))))) = some (r1, r2, r3) := by rw [if_neg (show ¬ (false = true) by decide)] at H; exact H
              clear H
              have H := H1
              clear H1
              by_cases c12 : a0 = 3
              · rw [if_pos c12] at H
                have c12b0 : (a0 == 3) = true := beq_iff_eq.mpr c12
                have c12b1 : (a0 != 3) = false := bne_eq_false_iff_eq.mpr c12
                clear c12
                obtain ⟨y193, hy193⟩ : ∃ y_ : List Int, y_ = (([3] : List Int)) := ⟨_, rfl⟩
                replace H : ((portreeveref11_to.f 1 y193).bind fun bt196 => (some (bt196.1, bt196.2.1, bt196.2.2))) = some (r1, r2, r3) := by first | (rw [hy193]; with_reducible exact H) | (have H2_ := (Option.bind_some _ _).symm.trans H; rw [hy193]; with_reducible exact H2_) | (have H2_ := (Option.bind_some _ _).symm.trans H; with_reducible exact H2_) | with_reducible exact H | (rw [hy193]; exact H) | exact H
                have Ny193 := Aside0.mk hy193
                clear hy193
                replace H := Option.bind_eq_some_iff.mp H
                obtain ⟨⟨t196, t199, t200⟩, A130, H⟩ := H
                replace H : (some (t196, t199, t200)) = some (r1, r2, r3) := H
                have A13 := Aside0.mk A130
                clear A130
                simp only [Option.some.injEq, Prod.mk.injEq] at H
                obtain ⟨rfl, rfl, rfl⟩ := H
                go_wp2_with (first | ((with_reducible refine gate_dst (N := 23) rfl ?_); refine Kd.R_lit (Kd.int .i64) _ 3 ?hg (N := 23) ?hd (xs := ([3] : List Int)) (inner := [.int .i64 3]) (ok := fun _ => True) (okp := fun _ => True) ?hr ?hp (fun _ hk => hk) trivial (Below.refl _ _) (Nat.le_refl _) (by simp) ?_; (case hd => rfl); (case hg => rfl); (case hr => first | (go_simp; done) | (go_simp; rfl)); (case hp => exact (Reps.one (show Kd.M (Kd.int .i64) _ _ _ 3 [.int .i64 3] from rfl) (Reps.none _ _))); intro v194 w14 ho15 hb hg_ hnew_; clear hg_ hnew_; (first | rw [← Ny193.out] at ho15 | (simp only [Int.reduceToNat] at ho15; rw [← Ny193.out] at ho15)); have n0_ := Aside0.mk (Kd.R_lower (Kd.R_newM (M := fun k_ => (w.heap.size ≤ k_)) ho15 (below_size (by repeat (first | (with_reducible first | exact HB.out | apply pA | apply pN | apply pD) | exact HB.out))) (fun k_ h_ => h_)) (below_size (by repeat (first | (with_reducible first | exact HB.out | apply pA | apply pN | apply pD) | exact HB.out)))); have n1_ := Aside0.mk (below_step (by repeat (first | (with_reducible first | exact HB.out | apply pA | apply pN | apply pD) | exact HB.out)) hb); clear HB; have HO195 := n0_; have HB := n1_; clear n0_ n1_; clear hb ho15; obtain ⟨Ao16, co16, eo16⟩ := Kd.R_slice HO195.out; subst eo16) | ((with_reducible refine gate_callee (f := 42) rfl ?_); refine goesL_ (some 24) rfl rfl Tryd.func42 (by kernel_rfl) rfl #[.int .i64 1, .slice Ao16 y193.length co16] rfl (by (try simp only [List.map_toArray, List.map_cons, List.map_nil]); first | done | rfl | (simp only [List.length_drop, List.length_take]; rfl)) ?_; (with_reducible refine (portreeveref11_to.calls 1 (fun k_ => some k_ = (.slice Ao16 y193.length co16 : Value).ownBlock) _ _ y193 t196 t199 t200 _ ?side1 A13.out).mono ?_); (case side1 => exact Kd.R_V (Kd.R_tight rfl (HO195.out))); rintro e w17 ⟨v197, rfl, ho0, hb⟩; refine ⟨_, rfl, ?_⟩; have n0_ := Aside0.mk (Kd.R_below (by (with_reducible repeat (first | apply Kd.R_alloc | apply Kd.R_drewN | apply Kd.R_drew)); exact HO195.out) hb); have n1_ := Aside0.mk (Kd.V_lower (Kd.V_mono (ok' := fun k_ => (w.heap.size ≤ k_)) ho0 (fun k_ hk_ => Or.elim hk_ (fun hs_ => ((HO195.out).1 k_ hs_.symm).1) (fun hn_ => (Nat.le_trans (below_size (by repeat (first | (with_reducible first | exact HB.out | apply pA | apply pN | apply pD) | exact HB.out))) hn_)))) (below_size (by repeat (first | (with_reducible first | exact HB.out | apply pA | apply pN | apply pD) | exact HB.out)))); have n2_ := Aside0.mk (below_step (by repeat (first | (with_reducible first | exact HB.out | apply pA | apply pN | apply pD) | exact HB.out)) hb); clear HO195; clear HB; have HO195 := n0_; have HO198 := n1_; have HB := n2_; clear n0_ n1_ n2_; (try clear hb); (try clear hb2); (try clear hk); (try clear hi); (try clear ho0)))
                go_ret3
                exact ⟨_, by first | rfl | (simp [errW_none, errW_some] <;> rfl) | (simp [*, errW_none, errW_some] <;> rfl), by (with_reducible repeat (first | apply Kd.V_alloc | apply Kd.V_drewN | apply Kd.V_drew)); exact HO198.out, by repeat (first | (with_reducible first | exact HB.out | apply pA | apply pN | apply pD) | exact HB.out)⟩
              · rw [if_neg c12] at H
                have c12b0 : (a0 == 3) = false := beq_eq_false_iff_ne.mpr c12
                have c12b1 : (a0 != 3) = true := bne_iff_ne.mpr c12
                by_cases c18 : a0 = 9
                · rw [if_pos c18] at H
                  have c18b0 : (a0 == 9) = true := beq_iff_eq.mpr c18
                  have c18b1 : (a0 != 9) = false := bne_eq_false_iff_eq.mpr c18
                  clear c18
                  obtain ⟨y201, hy201⟩ : ∃ y_ : List Int, y_ = (([2] : List Int)) := ⟨_, rfl⟩
                  replace H : ((portreeveref11_to.f 1 y201).bind fun bt204 => (some (bt204.1, bt204.2.1, bt204.2.2))) = some (r1, r2, r3) := by first | (rw [hy201]; with_reducible exact H) | (have H2_ := (Option.bind_some _ _).symm.trans H; rw [hy201]; with_reducible exact H2_) | (have H2_ := (Option.bind_some _ _).symm.trans H; with_reducible exact H2_) | with_reducible exact H | (rw [hy201]; exact H) | exact H
                  have Ny201 := Aside0.mk hy201
                  clear hy201
                  replace H := Option.bind_eq_some_iff.mp H
                  obtain ⟨⟨t204, t207, t208⟩, A190, H⟩ := H
                  replace H : (some (t204, t207, t208)) = some (r1, r2, r3) := H
                  have A19 := Aside0.mk A190
                  clear A190
                  simp only [Option.some.injEq, Prod.mk.injEq] at H
                  obtain ⟨rfl, rfl, rfl⟩ := H
                  go_wp2_with (first | ((with_reducible refine gate_dst (N := 30) rfl ?_); refine Kd.R_lit (Kd.int .i64) _ 3 ?hg (N := 30) ?hd (xs := ([2] : List Int)) (inner := [.int .i64 2]) (ok := fun _ => True) (okp := fun _ => True) ?hr ?hp (fun _ hk => hk) trivial (Below.refl _ _) (Nat.le_refl _) (by simp) ?_; (case hd => rfl); (case hg => rfl); (case hr => first | (go_simp; done) | (go_simp; rfl)); (case hp => exact (Reps.one (show Kd.M (Kd.int .i64) _ _ _ 2 [.int .i64 2] from rfl) (Reps.none _ _))); intro v202 w20 ho21 hb hg_ hnew_; clear hg_ hnew_; (first | rw [← Ny201.out] at ho21 | (simp only [Int.reduceToNat] at ho21; rw [← Ny201.out] at ho21)); have n0_ := Aside0.mk (Kd.R_lower (Kd.R_newM (M := fun k_ => (w.heap.size ≤ k_)) ho21 (below_size (by repeat (first | (with_reducible first | exact HB.out | apply pA | apply pN | apply pD) | exact HB.out))) (fun k_ h_ => h_)) (below_size (by repeat (first | (with_reducible first | exact HB.out | apply pA | apply pN | apply pD) | exact HB.out)))); have n1_ := Aside0.mk (below_step (by repeat (first | (with_reducible first | exact HB.out | apply pA | apply pN | apply pD) | exact HB.out)) hb); clear HB; have HO203 := n0_; have HB := n1_; clear n0_ n1_; clear hb ho21; obtain ⟨Ao22, co22, eo22⟩ := Kd.R_slice HO203.out; subst eo22) | ((with_reducible refine gate_callee (f := 42) rfl ?_); refine goesL_ (some 31) rfl rfl Tryd.func42 (by kernel_rfl) rfl #[.int .i64 1, .slice Ao22 y201.length co22] rfl (by (try simp only [List.map_toArray, List.map_cons, List.map_nil]); first | done | rfl | (simp only [List.length_drop, List.length_take]; rfl)) ?_; (with_reducible refine (portreeveref11_to.calls 1 (fun k_ => some k_ = (.slice Ao22 y201.length co22 : Value).ownBlock) _ _ y201 t204 t207 t208 _ ?side1 A19.out).mono ?_); (case side1 => exact Kd.R_V (Kd.R_tight rfl (HO203.out))); rintro e w23 ⟨v205, rfl, ho0, hb⟩; refine ⟨_, rfl, ?_⟩; have n0_ := Aside0.mk (Kd.R_below (by (with_reducible repeat (first | apply Kd.R_alloc | apply Kd.R_drewN | apply Kd.R_drew)); exact HO203.out) hb); have n1_ := Aside0.mk (Kd.V_lower (Kd.V_mono (ok' := fun k_ => (w.heap.size ≤ k_)) ho0 (fun k_ hk_ => Or.elim hk_ (fun hs_ => ((HO203.out).1 k_ hs_.symm).1) (fun hn_ => (Nat.le_trans (below_size (by repeat (first | (with_reducible first | exact HB.out | apply pA | apply pN | apply pD) | exact HB.out))) hn_)))) (below_size (by repeat (first | (with_reducible first | exact HB.out | apply pA | apply pN | apply pD) | exact HB.out)))); have n2_ := Aside0.mk (below_step (by repeat (first | (with_reducible first | exact HB.out | apply pA | apply pN | apply pD) | exact HB.out)) hb); clear HO203; clear HB; have HO203 := n0_; have HO206 := n1_; have HB := n2_; clear n0_ n1_ n2_; (try clear hb); (try clear hb2); (try clear hk); (try clear hi); (try clear ho0)))
                  go_ret3
                  exact ⟨_, by first | rfl | (simp [errW_none, errW_some] <;> rfl) | (simp [*, errW_none, errW_some] <;> rfl), by (with_reducible repeat (first | apply Kd.V_alloc | apply Kd.V_drewN | apply Kd.V_drew)); exact HO206.out, by repeat (first | (with_reducible first | exact HB.out | apply pA | apply pN | apply pD) | exact HB.out)⟩
                · rw [if_neg c18] at H
                  have c18b0 : (a0 == 9) = false := beq_eq_false_iff_ne.mpr c18
                  have c18b1 : (a0 != 9) = true := bne_iff_ne.mpr c18
                  replace H := Option.bind_eq_some_iff.mp H
                  obtain ⟨⟨t209, t210, t211⟩, A240, H⟩ := H
                  replace H : (some (t209, t210, t211)) = some (r1, r2, r3) := H
                  have A24 := Aside0.mk A240
                  clear A240
                  simp only [Option.some.injEq, Prod.mk.injEq] at H
                  obtain ⟨rfl, rfl, rfl⟩ := H
                  go_wp2_with (first | ((with_reducible refine gate_callee (f := 44) rfl ?_); refine goesL_ (some 35) rfl rfl Tryd.func44 (by kernel_rfl) rfl #[.int .i64 1] rfl (by (try simp only [List.map_toArray, List.map_cons, List.map_nil]); first | done | rfl | (simp only [List.length_drop, List.length_take]; rfl)) ?_; (with_reducible refine (portreeveref11_stay.calls 1 t209 t210 t211 _ A24.out).mono ?_); rintro e w25 ⟨v212, rfl, ho0, hb⟩; refine ⟨_, rfl, ?_⟩; have n0_ := Aside0.mk (Kd.R_lower (Kd.R_newM (M := fun k_ => (w.heap.size ≤ k_)) ho0 (below_size (by repeat (first | (with_reducible first | exact HB.out | apply pA | apply pN | apply pD) | exact HB.out))) (fun k_ h_ => h_)) (below_size (by repeat (first | (with_reducible first | exact HB.out | apply pA | apply pN | apply pD) | exact HB.out)))); have n1_ := Aside0.mk (below_step (by repeat (first | (with_reducible first | exact HB.out | apply pA | apply pN | apply pD) | exact HB.out)) hb); clear HB; have HO213 := n0_; have HB := n1_; clear n0_ n1_; (try clear hb); (try clear hb2); (try clear hk); (try clear hi); (try clear ho0)))
                  go_ret3
                  exact ⟨_, by first | rfl | (simp [errW_none, errW_some] <;> rfl) | (simp [*, errW_none, errW_some] <;> rfl), Kd.R_V (by (with_reducible repeat (first | apply Kd.R_alloc | apply Kd.R_drewN | apply Kd.R_drew)); exact Kd.R_mono HO213.out (fun _ hk => hk.1)), by repeat (first | (with_reducible first | exact HB.out | apply pA | apply pN | apply pD) | exact HB.out)⟩

/-! ### portreeveref11_opened: function 35 -/
def portreeveref11_opened.f (a0 : Int) : Option (List Int × Int × Bool) := if a0 = 0 then ((portreeveref11_to.f 1 (([3] : List Int))).bind fun bt217 => (some (bt217.1, bt217.2.1, bt217.2.2))) else (if a0 = 2 then ((portreeveref11_to.f 6 (([5, 7] : List Int))).bind fun bt225 => (some (bt225.1, bt225.2.1, bt225.2.2))) else (if a0 = 4 then ((portreeveref11_stay.f 5).bind fun bt230 => (some (bt230.1, bt230.2.1, bt230.2.2))) else ((portreeveref11_stay.f a0).bind fun bt235 => (some (bt235.1, bt235.2.1, bt235.2.2)))))
set_option maxHeartbeats 8000000 in
set_option maxRecDepth 100000 in
theorem portreeveref11_opened.calls (a0 : Int) (r1 : List Int) (r2 : Int) (r3 : Bool) (w : World) (h : portreeveref11_opened.f a0 = some (r1, r2, r3)) :
    Calls Tryd.prog 35 #[.int .i64 a0] w fun e w' => ∃ v0_ : Value, e = .returned (.tuple #[v0_, .int .i64 r2, .bool r3]) ∧ Kd.V (Kd.int .i64) 3 w' w.heap.size (fun k_ => (w.heap.size ≤ k_)) v0_ r1 ∧ Below w.heap.size w w' := by
  have HB := Aside0.mk (Below.refl w.heap.size w)
  have H : (if a0 = 0 then ((portreeveref11_to.f 1 (([3] : List Int))).bind fun bt217 => (some (bt217.1, bt217.2.1, bt217.2.2))) else (if a0 = 2 then ((portreeveref11_to.f 6 (([5, 7] : List Int))).bind fun bt225 => (some (bt225.1, bt225.2.1, bt225.2.2))) else (if a0 = 4 then ((portreeveref11_stay.f 5).bind fun bt230 => (some (bt230.1, bt230.2.1, bt230.2.2))) else ((portreeveref11_stay.f a0).bind fun bt235 => (some (bt235.1, bt235.2.1, bt235.2.2)))))) = some (r1, r2, r3) := h
  clear h
  by_cases c2 : a0 = 0
  · rw [if_pos c2] at H
    have c2b0 : (a0 == 0) = true := beq_iff_eq.mpr c2
    have c2b1 : (a0 != 0) = false := bne_eq_false_iff_eq.mpr c2
    clear c2
    obtain ⟨y214, hy214⟩ : ∃ y_ : List Int, y_ = (([3] : List Int)) := ⟨_, rfl⟩
    replace H : ((portreeveref11_to.f 1 y214).bind fun bt217 => (some (bt217.1, bt217.2.1, bt217.2.2))) = some (r1, r2, r3) := by first | (rw [hy214]; with_reducible exact H) | (have H2_ := (Option.bind_some _ _).symm.trans H; rw [hy214]; with_reducible exact H2_) | (have H2_ := (Option.bind_some _ _).symm.trans H; with_reducible exact H2_) | with_reducible exact H | (rw [hy214]; exact H) | exact H
    have Ny214 := Aside0.mk hy214
    clear hy214
    replace H := Option.bind_eq_some_iff.mp H
    obtain ⟨⟨t217, t220, t221⟩, A30, H⟩ := H
    replace H : (some (t217, t220, t221)) = some (r1, r2, r3) := H
    have A3 := Aside0.mk A30
    clear A30
    simp only [Option.some.injEq, Prod.mk.injEq] at H
    obtain ⟨rfl, rfl, rfl⟩ := H
    go_enter Tryd.func35, Tryd.ntmps35
    go_wp2_with (first | ((with_reducible refine gate_dst (N := 8) rfl ?_); refine Kd.R_lit (Kd.int .i64) _ 3 ?hg (N := 8) ?hd (xs := ([3] : List Int)) (inner := [.int .i64 3]) (ok := fun _ => True) (okp := fun _ => True) ?hr ?hp (fun _ hk => hk) trivial (Below.refl _ _) (Nat.le_refl _) (by simp) ?_; (case hd => rfl); (case hg => rfl); (case hr => first | (go_simp; done) | (go_simp; rfl)); (case hp => exact (Reps.one (show Kd.M (Kd.int .i64) _ _ _ 3 [.int .i64 3] from rfl) (Reps.none _ _))); intro v215 w4 ho5 hb hg_ hnew_; clear hg_ hnew_; (first | rw [← Ny214.out] at ho5 | (simp only [Int.reduceToNat] at ho5; rw [← Ny214.out] at ho5)); have n0_ := Aside0.mk (Kd.R_lower (Kd.R_newM (M := fun k_ => (w.heap.size ≤ k_)) ho5 (below_size (by repeat (first | (with_reducible first | exact HB.out | apply pA | apply pN | apply pD) | exact HB.out))) (fun k_ h_ => h_)) (below_size (by repeat (first | (with_reducible first | exact HB.out | apply pA | apply pN | apply pD) | exact HB.out)))); have n1_ := Aside0.mk (below_step (by repeat (first | (with_reducible first | exact HB.out | apply pA | apply pN | apply pD) | exact HB.out)) hb); clear HB; have HO216 := n0_; have HB := n1_; clear n0_ n1_; clear hb ho5; obtain ⟨Ao6, co6, eo6⟩ := Kd.R_slice HO216.out; subst eo6) | ((with_reducible refine gate_callee (f := 42) rfl ?_); refine goesL_ (some 9) rfl rfl Tryd.func42 (by kernel_rfl) rfl #[.int .i64 1, .slice Ao6 y214.length co6] rfl (by (try simp only [List.map_toArray, List.map_cons, List.map_nil]); first | done | rfl | (simp only [List.length_drop, List.length_take]; rfl)) ?_; (with_reducible refine (portreeveref11_to.calls 1 (fun k_ => some k_ = (.slice Ao6 y214.length co6 : Value).ownBlock) _ _ y214 t217 t220 t221 _ ?side1 A3.out).mono ?_); (case side1 => exact Kd.R_V (Kd.R_tight rfl (HO216.out))); rintro e w7 ⟨v218, rfl, ho0, hb⟩; refine ⟨_, rfl, ?_⟩; have n0_ := Aside0.mk (Kd.R_below (by (with_reducible repeat (first | apply Kd.R_alloc | apply Kd.R_drewN | apply Kd.R_drew)); exact HO216.out) hb); have n1_ := Aside0.mk (Kd.V_lower (Kd.V_mono (ok' := fun k_ => (w.heap.size ≤ k_)) ho0 (fun k_ hk_ => Or.elim hk_ (fun hs_ => ((HO216.out).1 k_ hs_.symm).1) (fun hn_ => (Nat.le_trans (below_size (by repeat (first | (with_reducible first | exact HB.out | apply pA | apply pN | apply pD) | exact HB.out))) hn_)))) (below_size (by repeat (first | (with_reducible first | exact HB.out | apply pA | apply pN | apply pD) | exact HB.out)))); have n2_ := Aside0.mk (below_step (by repeat (first | (with_reducible first | exact HB.out | apply pA | apply pN | apply pD) | exact HB.out)) hb); clear HO216; clear HB; have HO216 := n0_; have HO219 := n1_; have HB := n2_; clear n0_ n1_ n2_; (try clear hb); (try clear hb2); (try clear hk); (try clear hi); (try clear ho0)))
    go_ret3
    exact ⟨_, by first | rfl | (simp [errW_none, errW_some] <;> rfl) | (simp [*, errW_none, errW_some] <;> rfl), by (with_reducible repeat (first | apply Kd.V_alloc | apply Kd.V_drewN | apply Kd.V_drew)); exact HO219.out, by repeat (first | (with_reducible first | exact HB.out | apply pA | apply pN | apply pD) | exact HB.out)⟩
  · rw [if_neg c2] at H
    have c2b0 : (a0 == 0) = false := beq_eq_false_iff_ne.mpr c2
    have c2b1 : (a0 != 0) = true := bne_iff_ne.mpr c2
    by_cases c8 : a0 = 2
    · rw [if_pos c8] at H
      have c8b0 : (a0 == 2) = true := beq_iff_eq.mpr c8
      have c8b1 : (a0 != 2) = false := bne_eq_false_iff_eq.mpr c8
      clear c8
      obtain ⟨y222, hy222⟩ : ∃ y_ : List Int, y_ = (([5, 7] : List Int)) := ⟨_, rfl⟩
      replace H : ((portreeveref11_to.f 6 y222).bind fun bt225 => (some (bt225.1, bt225.2.1, bt225.2.2))) = some (r1, r2, r3) := by first | (rw [hy222]; with_reducible exact H) | (have H2_ := (Option.bind_some _ _).symm.trans H; rw [hy222]; with_reducible exact H2_) | (have H2_ := (Option.bind_some _ _).symm.trans H; with_reducible exact H2_) | with_reducible exact H | (rw [hy222]; exact H) | exact H
      have Ny222 := Aside0.mk hy222
      clear hy222
      replace H := Option.bind_eq_some_iff.mp H
      obtain ⟨⟨t225, t228, t229⟩, A90, H⟩ := H
      replace H : (some (t225, t228, t229)) = some (r1, r2, r3) := H
      have A9 := Aside0.mk A90
      clear A90
      simp only [Option.some.injEq, Prod.mk.injEq] at H
      obtain ⟨rfl, rfl, rfl⟩ := H
      go_enter Tryd.func35, Tryd.ntmps35
      go_wp2_with (first | ((with_reducible refine gate_dst (N := 15) rfl ?_); refine Kd.R_lit (Kd.int .i64) _ 3 ?hg (N := 15) ?hd (xs := ([5, 7] : List Int)) (inner := [.int .i64 5, .int .i64 7]) (ok := fun _ => True) (okp := fun _ => True) ?hr ?hp (fun _ hk => hk) trivial (Below.refl _ _) (Nat.le_refl _) (by simp) ?_; (case hd => rfl); (case hg => rfl); (case hr => first | (go_simp; done) | (go_simp; rfl)); (case hp => exact (Reps.one (show Kd.M (Kd.int .i64) _ _ _ 5 [.int .i64 5] from rfl) (Reps.one (show Kd.M (Kd.int .i64) _ _ _ 7 [.int .i64 7] from rfl) (Reps.none _ _)))); intro v223 w10 ho11 hb hg_ hnew_; clear hg_ hnew_; (first | rw [← Ny222.out] at ho11 | (simp only [Int.reduceToNat] at ho11; rw [← Ny222.out] at ho11)); have n0_ := Aside0.mk (Kd.R_lower (Kd.R_newM (M := fun k_ => (w.heap.size ≤ k_)) ho11 (below_size (by repeat (first | (with_reducible first | exact HB.out | apply pA | apply pN | apply pD) | exact HB.out))) (fun k_ h_ => h_)) (below_size (by repeat (first | (with_reducible first | exact HB.out | apply pA | apply pN | apply pD) | exact HB.out)))); have n1_ := Aside0.mk (below_step (by repeat (first | (with_reducible first | exact HB.out | apply pA | apply pN | apply pD) | exact HB.out)) hb); clear HB; have HO224 := n0_; have HB := n1_; clear n0_ n1_; clear hb ho11; obtain ⟨Ao12, co12, eo12⟩ := Kd.R_slice HO224.out; subst eo12) | ((with_reducible refine gate_callee (f := 42) rfl ?_); refine goesL_ (some 16) rfl rfl Tryd.func42 (by kernel_rfl) rfl #[.int .i64 6, .slice Ao12 y222.length co12] rfl (by (try simp only [List.map_toArray, List.map_cons, List.map_nil]); first | done | rfl | (simp only [List.length_drop, List.length_take]; rfl)) ?_; (with_reducible refine (portreeveref11_to.calls 6 (fun k_ => some k_ = (.slice Ao12 y222.length co12 : Value).ownBlock) _ _ y222 t225 t228 t229 _ ?side1 A9.out).mono ?_); (case side1 => exact Kd.R_V (Kd.R_tight rfl (HO224.out))); rintro e w13 ⟨v226, rfl, ho0, hb⟩; refine ⟨_, rfl, ?_⟩; have n0_ := Aside0.mk (Kd.R_below (by (with_reducible repeat (first | apply Kd.R_alloc | apply Kd.R_drewN | apply Kd.R_drew)); exact HO224.out) hb); have n1_ := Aside0.mk (Kd.V_lower (Kd.V_mono (ok' := fun k_ => (w.heap.size ≤ k_)) ho0 (fun k_ hk_ => Or.elim hk_ (fun hs_ => ((HO224.out).1 k_ hs_.symm).1) (fun hn_ => (Nat.le_trans (below_size (by repeat (first | (with_reducible first | exact HB.out | apply pA | apply pN | apply pD) | exact HB.out))) hn_)))) (below_size (by repeat (first | (with_reducible first | exact HB.out | apply pA | apply pN | apply pD) | exact HB.out)))); have n2_ := Aside0.mk (below_step (by repeat (first | (with_reducible first | exact HB.out | apply pA | apply pN | apply pD) | exact HB.out)) hb); clear HO224; clear HB; have HO224 := n0_; have HO227 := n1_; have HB := n2_; clear n0_ n1_ n2_; (try clear hb); (try clear hb2); (try clear hk); (try clear hi); (try clear ho0)))
      go_ret3
      exact ⟨_, by first | rfl | (simp [errW_none, errW_some] <;> rfl) | (simp [*, errW_none, errW_some] <;> rfl), by (with_reducible repeat (first | apply Kd.V_alloc | apply Kd.V_drewN | apply Kd.V_drew)); exact HO227.out, by repeat (first | (with_reducible first | exact HB.out | apply pA | apply pN | apply pD) | exact HB.out)⟩
    · rw [if_neg c8] at H
      have c8b0 : (a0 == 2) = false := beq_eq_false_iff_ne.mpr c8
      have c8b1 : (a0 != 2) = true := bne_iff_ne.mpr c8
      by_cases c14 : a0 = 4
      · rw [if_pos c14] at H
        have c14b0 : (a0 == 4) = true := beq_iff_eq.mpr c14
        have c14b1 : (a0 != 4) = false := bne_eq_false_iff_eq.mpr c14
        clear c14
        replace H := Option.bind_eq_some_iff.mp H
        obtain ⟨⟨t230, t231, t232⟩, A150, H⟩ := H
        replace H : (some (t230, t231, t232)) = some (r1, r2, r3) := H
        have A15 := Aside0.mk A150
        clear A150
        simp only [Option.some.injEq, Prod.mk.injEq] at H
        obtain ⟨rfl, rfl, rfl⟩ := H
        go_enter Tryd.func35, Tryd.ntmps35
        go_wp2_with (first | ((with_reducible refine gate_callee (f := 44) rfl ?_); refine goesL_ (some 22) rfl rfl Tryd.func44 (by kernel_rfl) rfl #[.int .i64 5] rfl (by (try simp only [List.map_toArray, List.map_cons, List.map_nil]); first | done | rfl | (simp only [List.length_drop, List.length_take]; rfl)) ?_; (with_reducible refine (portreeveref11_stay.calls 5 t230 t231 t232 _ A15.out).mono ?_); rintro e w16 ⟨v233, rfl, ho0, hb⟩; refine ⟨_, rfl, ?_⟩; have n0_ := Aside0.mk (Kd.R_lower (Kd.R_newM (M := fun k_ => (w.heap.size ≤ k_)) ho0 (below_size (by repeat (first | (with_reducible first | exact HB.out | apply pA | apply pN | apply pD) | exact HB.out))) (fun k_ h_ => h_)) (below_size (by repeat (first | (with_reducible first | exact HB.out | apply pA | apply pN | apply pD) | exact HB.out)))); have n1_ := Aside0.mk (below_step (by repeat (first | (with_reducible first | exact HB.out | apply pA | apply pN | apply pD) | exact HB.out)) hb); clear HB; have HO234 := n0_; have HB := n1_; clear n0_ n1_; (try clear hb); (try clear hb2); (try clear hk); (try clear hi); (try clear ho0)))
        go_ret3
        exact ⟨_, by first | rfl | (simp [errW_none, errW_some] <;> rfl) | (simp [*, errW_none, errW_some] <;> rfl), Kd.R_V (by (with_reducible repeat (first | apply Kd.R_alloc | apply Kd.R_drewN | apply Kd.R_drew)); exact Kd.R_mono HO234.out (fun _ hk => hk.1)), by repeat (first | (with_reducible first | exact HB.out | apply pA | apply pN | apply pD) | exact HB.out)⟩
      · rw [if_neg c14] at H
        have c14b0 : (a0 == 4) = false := beq_eq_false_iff_ne.mpr c14
        have c14b1 : (a0 != 4) = true := bne_iff_ne.mpr c14
        replace H := Option.bind_eq_some_iff.mp H
        obtain ⟨⟨t235, t236, t237⟩, A170, H⟩ := H
        replace H : (some (t235, t236, t237)) = some (r1, r2, r3) := H
        have A17 := Aside0.mk A170
        clear A170
        simp only [Option.some.injEq, Prod.mk.injEq] at H
        obtain ⟨rfl, rfl, rfl⟩ := H
        go_enter Tryd.func35, Tryd.ntmps35
        go_wp2_with (first | ((with_reducible refine gate_callee (f := 44) rfl ?_); refine goesL_ (some 27) rfl rfl Tryd.func44 (by kernel_rfl) rfl #[.int .i64 a0] rfl (by (try simp only [List.map_toArray, List.map_cons, List.map_nil]); first | done | rfl | (simp only [List.length_drop, List.length_take]; rfl)) ?_; (with_reducible refine (portreeveref11_stay.calls a0 t235 t236 t237 _ A17.out).mono ?_); rintro e w18 ⟨v238, rfl, ho0, hb⟩; refine ⟨_, rfl, ?_⟩; have n0_ := Aside0.mk (Kd.R_lower (Kd.R_newM (M := fun k_ => (w.heap.size ≤ k_)) ho0 (below_size (by repeat (first | (with_reducible first | exact HB.out | apply pA | apply pN | apply pD) | exact HB.out))) (fun k_ h_ => h_)) (below_size (by repeat (first | (with_reducible first | exact HB.out | apply pA | apply pN | apply pD) | exact HB.out)))); have n1_ := Aside0.mk (below_step (by repeat (first | (with_reducible first | exact HB.out | apply pA | apply pN | apply pD) | exact HB.out)) hb); clear HB; have HO239 := n0_; have HB := n1_; clear n0_ n1_; (try clear hb); (try clear hb2); (try clear hk); (try clear hi); (try clear ho0)))
        go_ret3
        exact ⟨_, by first | rfl | (simp [errW_none, errW_some] <;> rfl) | (simp [*, errW_none, errW_some] <;> rfl), Kd.R_V (by (with_reducible repeat (first | apply Kd.R_alloc | apply Kd.R_drewN | apply Kd.R_drew)); exact Kd.R_mono HO239.out (fun _ hk => hk.1)), by repeat (first | (with_reducible first | exact HB.out | apply pA | apply pN | apply pD) | exact HB.out)⟩

/-! ### portreeveref11_closed: function 36 -/
def portreeveref11_closed.j0 : Nat → Int → Int → Bool → Option (List Int × Int × Bool)
  | 0, _, _, _ => none
  | k + 1, x0, x5, x25 => if x25 = true then ((portreeveref11_to.f 4 (([5, 10] : List Int))).bind fun bt261 => (some (bt261.1, bt261.2.1, bt261.2.2))) else (if x5 = 9 then ((portreeveref11_to.f 4 (([2, 5, 10] : List Int))).bind fun bt269 => (some (bt269.1, bt269.2.1, bt269.2.2))) else ((portreeveref11_stay.f x0).bind fun bt274 => (some (bt274.1, bt274.2.1, bt274.2.2))))
def portreeveref11_closed.f (k : Nat) (a0 : Int) : Option (List Int × Int × Bool) := if a0 = 1 then ((portreeveref11_to.f 0 (([4] : List Int))).bind fun bt243 => (some (bt243.1, bt243.2.1, bt243.2.2))) else (if a0 = 3 then ((portreeveref11_stay.f 2).bind fun bt248 => (some (bt248.1, bt248.2.1, bt248.2.2))) else (if a0 = 5 then ((portreeveref11_stay.f 4).bind fun bt253 => (some (bt253.1, bt253.2.1, bt253.2.2))) else (if a0 = 6 then (portreeveref11_closed.j0 k a0 a0 (a0 == 6)) else (if a0 = 7 then (portreeveref11_closed.j0 k a0 a0 (a0 == 7)) else (portreeveref11_closed.j0 k a0 a0 (a0 == 8))))))
theorem portreeveref11_closed.mono_l : ∀ k, (∀ y0 y1 y2, LeO (portreeveref11_closed.j0 k y0 y1 y2) (portreeveref11_closed.j0 (k + 1) y0 y1 y2))
  | 0 => fun _ _ _ r h => by simp [portreeveref11_closed.j0] at h
  | k + 1 => by
    have ih0 := portreeveref11_closed.mono_l k
    · intro y0 y1 y2
      unfold portreeveref11_closed.j0
      repeat' first
      | (with_reducible exact ih0 _ _ _)
      | (with_reducible exact LeO.refl _)
      | (with_reducible exact LeO.none _)
      | (with_reducible refine LeO.ite ?_ ?_)
      | (with_reducible refine LeO.bind ?_ (fun _ => ?_))
      | exact ih0 _ _ _
      | exact LeO.none _
      | refine LeO.ite ?_ ?_
      | refine LeO.bind ?_ (fun _ => ?_)
theorem portreeveref11_closed.mono : ∀ a0 k, LeO (portreeveref11_closed.f k a0) (portreeveref11_closed.f (k + 1) a0) := by
  intro a0 k
  have ih0 := portreeveref11_closed.mono_l k
  unfold portreeveref11_closed.f
  repeat' first
      | (with_reducible exact ih0 _ _ _)
      | (with_reducible exact LeO.refl _)
      | (with_reducible exact LeO.none _)
      | (with_reducible refine LeO.ite ?_ ?_)
      | (with_reducible refine LeO.bind ?_ (fun _ => ?_))
      | exact ih0 _ _ _
      | exact LeO.none _
      | refine LeO.ite ?_ ?_
      | refine LeO.bind ?_ (fun _ => ?_)
set_option maxHeartbeats 8000000 in
set_option maxRecDepth 100000 in
theorem portreeveref11_closed.calls (k : Nat) (a0 : Int) (r1 : List Int) (r2 : Int) (r3 : Bool) (w : World) (h : portreeveref11_closed.f k a0 = some (r1, r2, r3)) :
    Calls Tryd.prog 36 #[.int .i64 a0] w fun e w' => ∃ v0_ : Value, e = .returned (.tuple #[v0_, .int .i64 r2, .bool r3]) ∧ Kd.V (Kd.int .i64) 3 w' w.heap.size (fun k_ => (w.heap.size ≤ k_)) v0_ r1 ∧ Below w.heap.size w w' := by
  have HB := Aside0.mk (Below.refl w.heap.size w)
  have H : (if a0 = 1 then ((portreeveref11_to.f 0 (([4] : List Int))).bind fun bt243 => (some (bt243.1, bt243.2.1, bt243.2.2))) else (if a0 = 3 then ((portreeveref11_stay.f 2).bind fun bt248 => (some (bt248.1, bt248.2.1, bt248.2.2))) else (if a0 = 5 then ((portreeveref11_stay.f 4).bind fun bt253 => (some (bt253.1, bt253.2.1, bt253.2.2))) else (if a0 = 6 then (portreeveref11_closed.j0 k a0 a0 (a0 == 6)) else (if a0 = 7 then (portreeveref11_closed.j0 k a0 a0 (a0 == 7)) else (portreeveref11_closed.j0 k a0 a0 (a0 == 8))))))) = some (r1, r2, r3) := h
  clear h
  by_cases c2 : a0 = 1
  · rw [if_pos c2] at H
    have c2b0 : (a0 == 1) = true := beq_iff_eq.mpr c2
    have c2b1 : (a0 != 1) = false := bne_eq_false_iff_eq.mpr c2
    clear c2
    obtain ⟨y240, hy240⟩ : ∃ y_ : List Int, y_ = (([4] : List Int)) := ⟨_, rfl⟩
    replace H : ((portreeveref11_to.f 0 y240).bind fun bt243 => (some (bt243.1, bt243.2.1, bt243.2.2))) = some (r1, r2, r3) := by first | (rw [hy240]; with_reducible exact H) | (have H2_ := (Option.bind_some _ _).symm.trans H; rw [hy240]; with_reducible exact H2_) | (have H2_ := (Option.bind_some _ _).symm.trans H; with_reducible exact H2_) | with_reducible exact H | (rw [hy240]; exact H) | exact H
    have Ny240 := Aside0.mk hy240
    clear hy240
    replace H := Option.bind_eq_some_iff.mp H
    obtain ⟨⟨t243, t246, t247⟩, A30, H⟩ := H
    replace H : (some (t243, t246, t247)) = some (r1, r2, r3) := H
    have A3 := Aside0.mk A30
    clear A30
    simp only [Option.some.injEq, Prod.mk.injEq] at H
    obtain ⟨rfl, rfl, rfl⟩ := H
    go_enter Tryd.func36, Tryd.ntmps36
    go_wp2_with (first | ((with_reducible refine gate_dst (N := 8) rfl ?_); refine Kd.R_lit (Kd.int .i64) _ 3 ?hg (N := 8) ?hd (xs := ([4] : List Int)) (inner := [.int .i64 4]) (ok := fun _ => True) (okp := fun _ => True) ?hr ?hp (fun _ hk => hk) trivial (Below.refl _ _) (Nat.le_refl _) (by simp) ?_; (case hd => rfl); (case hg => rfl); (case hr => first | (go_simp; done) | (go_simp; rfl)); (case hp => exact (Reps.one (show Kd.M (Kd.int .i64) _ _ _ 4 [.int .i64 4] from rfl) (Reps.none _ _))); intro v241 w4 ho5 hb hg_ hnew_; clear hg_ hnew_; (first | rw [← Ny240.out] at ho5 | (simp only [Int.reduceToNat] at ho5; rw [← Ny240.out] at ho5)); have n0_ := Aside0.mk (Kd.R_lower (Kd.R_newM (M := fun k_ => (w.heap.size ≤ k_)) ho5 (below_size (by repeat (first | (with_reducible first | exact HB.out | apply pA | apply pN | apply pD) | exact HB.out))) (fun k_ h_ => h_)) (below_size (by repeat (first | (with_reducible first | exact HB.out | apply pA | apply pN | apply pD) | exact HB.out)))); have n1_ := Aside0.mk (below_step (by repeat (first | (with_reducible first | exact HB.out | apply pA | apply pN | apply pD) | exact HB.out)) hb); clear HB; have HO242 := n0_; have HB := n1_; clear n0_ n1_; clear hb ho5; obtain ⟨Ao6, co6, eo6⟩ := Kd.R_slice HO242.out; subst eo6) | ((with_reducible refine gate_callee (f := 42) rfl ?_); refine goesL_ (some 9) rfl rfl Tryd.func42 (by kernel_rfl) rfl #[.int .i64 0, .slice Ao6 y240.length co6] rfl (by (try simp only [List.map_toArray, List.map_cons, List.map_nil]); first | done | rfl | (simp only [List.length_drop, List.length_take]; rfl)) ?_; (with_reducible refine (portreeveref11_to.calls 0 (fun k_ => some k_ = (.slice Ao6 y240.length co6 : Value).ownBlock) _ _ y240 t243 t246 t247 _ ?side1 A3.out).mono ?_); (case side1 => exact Kd.R_V (Kd.R_tight rfl (HO242.out))); rintro e w7 ⟨v244, rfl, ho0, hb⟩; refine ⟨_, rfl, ?_⟩; have n0_ := Aside0.mk (Kd.R_below (by (with_reducible repeat (first | apply Kd.R_alloc | apply Kd.R_drewN | apply Kd.R_drew)); exact HO242.out) hb); have n1_ := Aside0.mk (Kd.V_lower (Kd.V_mono (ok' := fun k_ => (w.heap.size ≤ k_)) ho0 (fun k_ hk_ => Or.elim hk_ (fun hs_ => ((HO242.out).1 k_ hs_.symm).1) (fun hn_ => (Nat.le_trans (below_size (by repeat (first | (with_reducible first | exact HB.out | apply pA | apply pN | apply pD) | exact HB.out))) hn_)))) (below_size (by repeat (first | (with_reducible first | exact HB.out | apply pA | apply pN | apply pD) | exact HB.out)))); have n2_ := Aside0.mk (below_step (by repeat (first | (with_reducible first | exact HB.out | apply pA | apply pN | apply pD) | exact HB.out)) hb); clear HO242; clear HB; have HO242 := n0_; have HO245 := n1_; have HB := n2_; clear n0_ n1_ n2_; (try clear hb); (try clear hb2); (try clear hk); (try clear hi); (try clear ho0)))
    go_ret3
    exact ⟨_, by first | rfl | (simp [errW_none, errW_some] <;> rfl) | (simp [*, errW_none, errW_some] <;> rfl), by (with_reducible repeat (first | apply Kd.V_alloc | apply Kd.V_drewN | apply Kd.V_drew)); exact HO245.out, by repeat (first | (with_reducible first | exact HB.out | apply pA | apply pN | apply pD) | exact HB.out)⟩
  · rw [if_neg c2] at H
    have c2b0 : (a0 == 1) = false := beq_eq_false_iff_ne.mpr c2
    have c2b1 : (a0 != 1) = true := bne_iff_ne.mpr c2
    by_cases c8 : a0 = 3
    · rw [if_pos c8] at H
      have c8b0 : (a0 == 3) = true := beq_iff_eq.mpr c8
      have c8b1 : (a0 != 3) = false := bne_eq_false_iff_eq.mpr c8
      clear c8
      replace H := Option.bind_eq_some_iff.mp H
      obtain ⟨⟨t248, t249, t250⟩, A90, H⟩ := H
      replace H : (some (t248, t249, t250)) = some (r1, r2, r3) := H
      have A9 := Aside0.mk A90
      clear A90
      simp only [Option.some.injEq, Prod.mk.injEq] at H
      obtain ⟨rfl, rfl, rfl⟩ := H
      go_enter Tryd.func36, Tryd.ntmps36
      go_wp2_with (first | ((with_reducible refine gate_callee (f := 44) rfl ?_); refine goesL_ (some 15) rfl rfl Tryd.func44 (by kernel_rfl) rfl #[.int .i64 2] rfl (by (try simp only [List.map_toArray, List.map_cons, List.map_nil]); first | done | rfl | (simp only [List.length_drop, List.length_take]; rfl)) ?_; (with_reducible refine (portreeveref11_stay.calls 2 t248 t249 t250 _ A9.out).mono ?_); rintro e w10 ⟨v251, rfl, ho0, hb⟩; refine ⟨_, rfl, ?_⟩; have n0_ := Aside0.mk (Kd.R_lower (Kd.R_newM (M := fun k_ => (w.heap.size ≤ k_)) ho0 (below_size (by repeat (first | (with_reducible first | exact HB.out | apply pA | apply pN | apply pD) | exact HB.out))) (fun k_ h_ => h_)) (below_size (by repeat (first | (with_reducible first | exact HB.out | apply pA | apply pN | apply pD) | exact HB.out)))); have n1_ := Aside0.mk (below_step (by repeat (first | (with_reducible first | exact HB.out | apply pA | apply pN | apply pD) | exact HB.out)) hb); clear HB; have HO252 := n0_; have HB := n1_; clear n0_ n1_; (try clear hb); (try clear hb2); (try clear hk); (try clear hi); (try clear ho0)))
      go_ret3
      exact ⟨_, by first | rfl | (simp [errW_none, errW_some] <;> rfl) | (simp [*, errW_none, errW_some] <;> rfl), Kd.R_V (by (with_reducible repeat (first | apply Kd.R_alloc | apply Kd.R_drewN | apply Kd.R_drew)); exact Kd.R_mono HO252.out (fun _ hk => hk.1)), by repeat (first | (with_reducible first | exact HB.out | apply pA | apply pN | apply pD) | exact HB.out)⟩
    · rw [if_neg c8] at H
      have c8b0 : (a0 == 3) = false := beq_eq_false_iff_ne.mpr c8
      have c8b1 : (a0 != 3) = true := bne_iff_ne.mpr c8
      by_cases c11 : a0 = 5
      · rw [if_pos c11] at H
        have c11b0 : (a0 == 5) = true := beq_iff_eq.mpr c11
        have c11b1 : (a0 != 5) = false := bne_eq_false_iff_eq.mpr c11
        clear c11
        replace H := Option.bind_eq_some_iff.mp H
        obtain ⟨⟨t253, t254, t255⟩, A120, H⟩ := H
        replace H : (some (t253, t254, t255)) = some (r1, r2, r3) := H
        have A12 := Aside0.mk A120
        clear A120
        simp only [Option.some.injEq, Prod.mk.injEq] at H
        obtain ⟨rfl, rfl, rfl⟩ := H
        go_enter Tryd.func36, Tryd.ntmps36
        go_wp2_with (first | ((with_reducible refine gate_callee (f := 44) rfl ?_); refine goesL_ (some 21) rfl rfl Tryd.func44 (by kernel_rfl) rfl #[.int .i64 4] rfl (by (try simp only [List.map_toArray, List.map_cons, List.map_nil]); first | done | rfl | (simp only [List.length_drop, List.length_take]; rfl)) ?_; (with_reducible refine (portreeveref11_stay.calls 4 t253 t254 t255 _ A12.out).mono ?_); rintro e w13 ⟨v256, rfl, ho0, hb⟩; refine ⟨_, rfl, ?_⟩; have n0_ := Aside0.mk (Kd.R_lower (Kd.R_newM (M := fun k_ => (w.heap.size ≤ k_)) ho0 (below_size (by repeat (first | (with_reducible first | exact HB.out | apply pA | apply pN | apply pD) | exact HB.out))) (fun k_ h_ => h_)) (below_size (by repeat (first | (with_reducible first | exact HB.out | apply pA | apply pN | apply pD) | exact HB.out)))); have n1_ := Aside0.mk (below_step (by repeat (first | (with_reducible first | exact HB.out | apply pA | apply pN | apply pD) | exact HB.out)) hb); clear HB; have HO257 := n0_; have HB := n1_; clear n0_ n1_; (try clear hb); (try clear hb2); (try clear hk); (try clear hi); (try clear ho0)))
        go_ret3
        exact ⟨_, by first | rfl | (simp [errW_none, errW_some] <;> rfl) | (simp [*, errW_none, errW_some] <;> rfl), Kd.R_V (by (with_reducible repeat (first | apply Kd.R_alloc | apply Kd.R_drewN | apply Kd.R_drew)); exact Kd.R_mono HO257.out (fun _ hk => hk.1)), by repeat (first | (with_reducible first | exact HB.out | apply pA | apply pN | apply pD) | exact HB.out)⟩
      · rw [if_neg c11] at H
        have c11b0 : (a0 == 5) = false := beq_eq_false_iff_ne.mpr c11
        have c11b1 : (a0 != 5) = true := bne_iff_ne.mpr c11
        have HC14 := Aside0.mk H
        clear H
        go_enter Tryd.func36, Tryd.ntmps36
        go_upto_if 25 with (fail)
        go_cut [25] (fun v25 wc => ∃ (kq : Nat) (x25_13 : Bool), v25 = .bool x25_13 ∧ Aside0 (portreeveref11_closed.j0 kq a0 a0 x25_13 = some (r1, r2, r3)) ∧ Aside0 (kq ≤ k) ∧ Aside0 (Below w.heap.size w wc))
        case first =>
          have H := HC14.out
          clear HC14
          by_cases c15 : a0 = 6
          · rw [if_pos c15] at H
            have c15b0 : (a0 == 6) = true := beq_iff_eq.mpr c15
            have c15b1 : (a0 != 6) = false := bne_eq_false_iff_eq.mpr c15
            clear c15
            (first | rw [c15b0] | (simp only [i64_w, i32_w]; rw [c15b0]) | skip)
            have H' := Aside0.mk H
            clear H
            go_wp2
            go_meet
            case rel => exact ⟨_, ((a0 == 6)), (by first | rfl | (simp; done) | (simp [*]; done)), H', ⟨by first | omega | exact Nat.le_refl _⟩, ⟨by repeat (first | (with_reducible first | exact HB.out | apply pA | apply pN | apply pD) | exact HB.out)⟩⟩
          · rw [if_neg c15] at H
            have c15b0 : (a0 == 6) = false := beq_eq_false_iff_ne.mpr c15
            have c15b1 : (a0 != 6) = true := bne_iff_ne.mpr c15
            (first | rw [c15b0] | (simp only [i64_w, i32_w]; rw [c15b0]) | skip)
            by_cases c16 : a0 = 7
            · rw [if_pos c16] at H
              have c16b0 : (a0 == 7) = true := beq_iff_eq.mpr c16
              have c16b1 : (a0 != 7) = false := bne_eq_false_iff_eq.mpr c16
              clear c16
              have H' := Aside0.mk H
              clear H
              go_wp2
              go_meet
              case rel => exact ⟨_, ((a0 == 7)), (by first | rfl | (simp; done) | (simp [*]; done)), H', ⟨by first | omega | exact Nat.le_refl _⟩, ⟨by repeat (first | (with_reducible first | exact HB.out | apply pA | apply pN | apply pD) | exact HB.out)⟩⟩
            · rw [if_neg c16] at H
              have c16b0 : (a0 == 7) = false := beq_eq_false_iff_ne.mpr c16
              have c16b1 : (a0 != 7) = true := bne_iff_ne.mpr c16
              have H' := Aside0.mk H
              clear H
              go_wp2
              go_meet
              case rel => exact ⟨_, ((a0 == 8)), (by first | rfl | (simp; done) | (simp [*]; done)), H', ⟨by first | omega | exact Nat.le_refl _⟩, ⟨by repeat (first | (with_reducible first | exact HB.out | apply pA | apply pN | apply pD) | exact HB.out)⟩⟩
        case rest =>
          clear HC14
          try clear c1
          try clear c2
          try clear c2b0
          try clear c2b1
          try clear p2
          try clear c3
          try clear c4
          try clear c8
          try clear c8b0
          try clear c8b1
          try clear c11
          try clear c11b0
          try clear c11b1
          try clear c15
          try clear c15b0
          try clear c15b1
          try clear c16
          try clear c16b0
          try clear c16b1
          obtain ⟨kq, x25_13, rfl, HA, HJ13, HB⟩ := hcut
          cases kq with
          | zero => exact absurd HA.out (by simp [portreeveref11_closed.j0])
          | succ kj13 =>
            have H := HA.out
            clear HA
            simp only [portreeveref11_closed.j0] at H
            by_cases c17 : x25_13 = true
            · subst c17
              have H1 : ((portreeveref11_to.f 4 (([5, 10] : List Int))).bind fun bt261 => (some (bt261.1, bt261.2.1, bt261.2.2))) = some (r1, r2, r3) := by rw [if_pos rfl] at H; exact H
              clear H
              have H := H1
              clear H1
              obtain ⟨y258, hy258⟩ : ∃ y_ : List Int, y_ = (([5, 10] : List Int)) := ⟨_, rfl⟩
              replace H : ((portreeveref11_to.f 4 y258).bind fun bt261 => (some (bt261.1, bt261.2.1, bt261.2.2))) = some (r1, r2, r3) := by first | (rw [hy258]; with_reducible exact H) | (have H2_ := (Option.bind_some _ _).symm.trans H; rw [hy258]; with_reducible exact H2_) | (have H2_ := (Option.bind_some _ _).symm.trans H; with_reducible exact H2_) | with_reducible exact H | (rw [hy258]; exact H) | exact H
              have Ny258 := Aside0.mk hy258
              clear hy258
              replace H := Option.bind_eq_some_iff.mp H
              obtain ⟨⟨t261, t264, t265⟩, A180, H⟩ := H
              replace H : (some (t261, t264, t265)) = some (r1, r2, r3) := H
              have A18 := Aside0.mk A180
              clear A180
              simp only [Option.some.injEq, Prod.mk.injEq] at H
              obtain ⟨rfl, rfl, rfl⟩ := H
              go_wp2_with (first | ((with_reducible refine gate_dst (N := 29) rfl ?_); refine Kd.R_lit (Kd.int .i64) _ 3 ?hg (N := 29) ?hd (xs := ([5, 10] : List Int)) (inner := [.int .i64 5, .int .i64 10]) (ok := fun _ => True) (okp := fun _ => True) ?hr ?hp (fun _ hk => hk) trivial (Below.refl _ _) (Nat.le_refl _) (by simp) ?_; (case hd => rfl); (case hg => rfl); (case hr => first | (go_simp; done) | (go_simp; rfl)); (case hp => exact (Reps.one (show Kd.M (Kd.int .i64) _ _ _ 5 [.int .i64 5] from rfl) (Reps.one (show Kd.M (Kd.int .i64) _ _ _ 10 [.int .i64 10] from rfl) (Reps.none _ _)))); intro v259 w19 ho20 hb hg_ hnew_; clear hg_ hnew_; (first | rw [← Ny258.out] at ho20 | (simp only [Int.reduceToNat] at ho20; rw [← Ny258.out] at ho20)); have n0_ := Aside0.mk (Kd.R_lower (Kd.R_newM (M := fun k_ => (w.heap.size ≤ k_)) ho20 (below_size (by repeat (first | (with_reducible first | exact HB.out | apply pA | apply pN | apply pD) | exact HB.out))) (fun k_ h_ => h_)) (below_size (by repeat (first | (with_reducible first | exact HB.out | apply pA | apply pN | apply pD) | exact HB.out)))); have n1_ := Aside0.mk (below_step (by repeat (first | (with_reducible first | exact HB.out | apply pA | apply pN | apply pD) | exact HB.out)) hb); clear HB; have HO260 := n0_; have HB := n1_; clear n0_ n1_; clear hb ho20; obtain ⟨Ao21, co21, eo21⟩ := Kd.R_slice HO260.out; subst eo21) | ((with_reducible refine gate_callee (f := 42) rfl ?_); refine goesL_ (some 30) rfl rfl Tryd.func42 (by kernel_rfl) rfl #[.int .i64 4, .slice Ao21 y258.length co21] rfl (by (try simp only [List.map_toArray, List.map_cons, List.map_nil]); first | done | rfl | (simp only [List.length_drop, List.length_take]; rfl)) ?_; (with_reducible refine (portreeveref11_to.calls 4 (fun k_ => some k_ = (.slice Ao21 y258.length co21 : Value).ownBlock) _ _ y258 t261 t264 t265 _ ?side1 A18.out).mono ?_); (case side1 => exact Kd.R_V (Kd.R_tight rfl (HO260.out))); rintro e w22 ⟨v262, rfl, ho0, hb⟩; refine ⟨_, rfl, ?_⟩; have n0_ := Aside0.mk (Kd.R_below (by (with_reducible repeat (first | apply Kd.R_alloc | apply Kd.R_drewN | apply Kd.R_drew)); exact HO260.out) hb); have n1_ := Aside0.mk (Kd.V_lower (Kd.V_mono (ok' := fun k_ => (w.heap.size ≤ k_)) ho0 (fun k_ hk_ => Or.elim hk_ (fun hs_ => ((HO260.out).1 k_ hs_.symm).1) (fun hn_ => (Nat.le_trans (below_size (by repeat (first | (with_reducible first | exact HB.out | apply pA | apply pN | apply pD) | exact HB.out))) hn_)))) (below_size (by repeat (first | (with_reducible first | exact HB.out | apply pA | apply pN | apply pD) | exact HB.out)))); have n2_ := Aside0.mk (below_step (by repeat (first | (with_reducible first | exact HB.out | apply pA | apply pN | apply pD) | exact HB.out)) hb); clear HO260; clear HB; have HO260 := n0_; have HO263 := n1_; have HB := n2_; clear n0_ n1_ n2_; (try clear hb); (try clear hb2); (try clear hk); (try clear hi); (try clear ho0)))
              go_ret3
              exact ⟨_, by first | rfl | (simp [errW_none, errW_some] <;> rfl) | (simp [*, errW_none, errW_some] <;> rfl), by (with_reducible repeat (first | apply Kd.V_alloc | apply Kd.V_drewN | apply Kd.V_drew)); exact HO263.out, by repeat (first | (with_reducible first | exact HB.out | apply pA | apply pN | apply pD) | exact HB.out)⟩
            · replace c17 := Bool.eq_false_iff.mpr c17
              subst c17
              have H1 : (if a0 = 9 then ((portreeveref11_to.f 4 (([2, 5, 10] : List Int))).bind fun bt269 => (some (bt269.1, bt269.2.1, bt269.2.2))) else ((portreeveref11_stay.f a0).bind fun bt274 => (some (bt274.1, bt274.2.1, bt274.2.2)))) = some (r1, r2, r3) := by rw [if_neg (show ¬ (false = true) by decide)] at H; exact H
              clear H
              have H := H1
              clear H1
              by_cases c23 : a0 = 9
              · rw [if_pos c23] at H
                have c23b0 : (a0 == 9) = true := beq_iff_eq.mpr c23
                have c23b1 : (a0 != 9) = false := bne_eq_false_iff_eq.mpr c23
                clear c23
                obtain ⟨y266, hy266⟩ : ∃ y_ : List Int, y_ = (([2, 5, 10] : List Int)) := ⟨_, rfl⟩
                replace H : ((portreeveref11_to.f 4 y266).bind fun bt269 => (some (bt269.1, bt269.2.1, bt269.2.2))) = some (r1, r2, r3) := by first | (rw [hy266]; with_reducible exact H) | (have H2_ := (Option.bind_some _ _).symm.trans H; rw [hy266]; with_reducible exact H2_) | (have H2_ := (Option.bind_some _ _).symm.trans H; with_reducible exact H2_) | with_reducible exact H | (rw [hy266]; exact H) | exact H
                have Ny266 := Aside0.mk hy266
                clear hy266
                replace H := Option.bind_eq_some_iff.mp H
                obtain ⟨⟨t269, t272, t273⟩, A240, H⟩ := H
                replace H : (some (t269, t272, t273)) = some (r1, r2, r3) := H
                have A24 := Aside0.mk A240
                clear A240
                simp only [Option.some.injEq, Prod.mk.injEq] at H
                obtain ⟨rfl, rfl, rfl⟩ := H
                go_wp2_with (first | ((with_reducible refine gate_dst (N := 36) rfl ?_); refine Kd.R_lit (Kd.int .i64) _ 3 ?hg (N := 36) ?hd (xs := ([2, 5, 10] : List Int)) (inner := [.int .i64 2, .int .i64 5, .int .i64 10]) (ok := fun _ => True) (okp := fun _ => True) ?hr ?hp (fun _ hk => hk) trivial (Below.refl _ _) (Nat.le_refl _) (by simp) ?_; (case hd => rfl); (case hg => rfl); (case hr => first | (go_simp; done) | (go_simp; rfl)); (case hp => exact (Reps.one (show Kd.M (Kd.int .i64) _ _ _ 2 [.int .i64 2] from rfl) (Reps.one (show Kd.M (Kd.int .i64) _ _ _ 5 [.int .i64 5] from rfl) (Reps.one (show Kd.M (Kd.int .i64) _ _ _ 10 [.int .i64 10] from rfl) (Reps.none _ _))))); intro v267 w25 ho26 hb hg_ hnew_; clear hg_ hnew_; (first | rw [← Ny266.out] at ho26 | (simp only [Int.reduceToNat] at ho26; rw [← Ny266.out] at ho26)); have n0_ := Aside0.mk (Kd.R_lower (Kd.R_newM (M := fun k_ => (w.heap.size ≤ k_)) ho26 (below_size (by repeat (first | (with_reducible first | exact HB.out | apply pA | apply pN | apply pD) | exact HB.out))) (fun k_ h_ => h_)) (below_size (by repeat (first | (with_reducible first | exact HB.out | apply pA | apply pN | apply pD) | exact HB.out)))); have n1_ := Aside0.mk (below_step (by repeat (first | (with_reducible first | exact HB.out | apply pA | apply pN | apply pD) | exact HB.out)) hb); clear HB; have HO268 := n0_; have HB := n1_; clear n0_ n1_; clear hb ho26; obtain ⟨Ao27, co27, eo27⟩ := Kd.R_slice HO268.out; subst eo27) | ((with_reducible refine gate_callee (f := 42) rfl ?_); refine goesL_ (some 37) rfl rfl Tryd.func42 (by kernel_rfl) rfl #[.int .i64 4, .slice Ao27 y266.length co27] rfl (by (try simp only [List.map_toArray, List.map_cons, List.map_nil]); first | done | rfl | (simp only [List.length_drop, List.length_take]; rfl)) ?_; (with_reducible refine (portreeveref11_to.calls 4 (fun k_ => some k_ = (.slice Ao27 y266.length co27 : Value).ownBlock) _ _ y266 t269 t272 t273 _ ?side1 A24.out).mono ?_); (case side1 => exact Kd.R_V (Kd.R_tight rfl (HO268.out))); rintro e w28 ⟨v270, rfl, ho0, hb⟩; refine ⟨_, rfl, ?_⟩; have n0_ := Aside0.mk (Kd.R_below (by (with_reducible repeat (first | apply Kd.R_alloc | apply Kd.R_drewN | apply Kd.R_drew)); exact HO268.out) hb); have n1_ := Aside0.mk (Kd.V_lower (Kd.V_mono (ok' := fun k_ => (w.heap.size ≤ k_)) ho0 (fun k_ hk_ => Or.elim hk_ (fun hs_ => ((HO268.out).1 k_ hs_.symm).1) (fun hn_ => (Nat.le_trans (below_size (by repeat (first | (with_reducible first | exact HB.out | apply pA | apply pN | apply pD) | exact HB.out))) hn_)))) (below_size (by repeat (first | (with_reducible first | exact HB.out | apply pA | apply pN | apply pD) | exact HB.out)))); have n2_ := Aside0.mk (below_step (by repeat (first | (with_reducible first | exact HB.out | apply pA | apply pN | apply pD) | exact HB.out)) hb); clear HO268; clear HB; have HO268 := n0_; have HO271 := n1_; have HB := n2_; clear n0_ n1_ n2_; (try clear hb); (try clear hb2); (try clear hk); (try clear hi); (try clear ho0)))
                go_ret3
                exact ⟨_, by first | rfl | (simp [errW_none, errW_some] <;> rfl) | (simp [*, errW_none, errW_some] <;> rfl), by (with_reducible repeat (first | apply Kd.V_alloc | apply Kd.V_drewN | apply Kd.V_drew)); exact HO271.out, by repeat (first | (with_reducible first | exact HB.out | apply pA | apply pN | apply pD) | exact HB.out)⟩
              · rw [if_neg c23] at H
                have c23b0 : (a0 == 9) = false := beq_eq_false_iff_ne.mpr c23
                have c23b1 : (a0 != 9) = true := bne_iff_ne.mpr c23
                replace H := Option.bind_eq_some_iff.mp H
                obtain ⟨⟨t274, t275, t276⟩, A290, H⟩ := H
                replace H : (some (t274, t275, t276)) = some (r1, r2, r3) := H
                have A29 := Aside0.mk A290
                clear A290
                simp only [Option.some.injEq, Prod.mk.injEq] at H
                obtain ⟨rfl, rfl, rfl⟩ := H
                go_wp2_with (first | ((with_reducible refine gate_callee (f := 44) rfl ?_); refine goesL_ (some 42) rfl rfl Tryd.func44 (by kernel_rfl) rfl #[.int .i64 a0] rfl (by (try simp only [List.map_toArray, List.map_cons, List.map_nil]); first | done | rfl | (simp only [List.length_drop, List.length_take]; rfl)) ?_; (with_reducible refine (portreeveref11_stay.calls a0 t274 t275 t276 _ A29.out).mono ?_); rintro e w30 ⟨v277, rfl, ho0, hb⟩; refine ⟨_, rfl, ?_⟩; have n0_ := Aside0.mk (Kd.R_lower (Kd.R_newM (M := fun k_ => (w.heap.size ≤ k_)) ho0 (below_size (by repeat (first | (with_reducible first | exact HB.out | apply pA | apply pN | apply pD) | exact HB.out))) (fun k_ h_ => h_)) (below_size (by repeat (first | (with_reducible first | exact HB.out | apply pA | apply pN | apply pD) | exact HB.out)))); have n1_ := Aside0.mk (below_step (by repeat (first | (with_reducible first | exact HB.out | apply pA | apply pN | apply pD) | exact HB.out)) hb); clear HB; have HO278 := n0_; have HB := n1_; clear n0_ n1_; (try clear hb); (try clear hb2); (try clear hk); (try clear hi); (try clear ho0)))
                go_ret3
                exact ⟨_, by first | rfl | (simp [errW_none, errW_some] <;> rfl) | (simp [*, errW_none, errW_some] <;> rfl), Kd.R_V (by (with_reducible repeat (first | apply Kd.R_alloc | apply Kd.R_drewN | apply Kd.R_drew)); exact Kd.R_mono HO278.out (fun _ hk => hk.1)), by repeat (first | (with_reducible first | exact HB.out | apply pA | apply pN | apply pD) | exact HB.out)⟩

end Go.Proofs.YtoenogjedmnnlaaDoor.Q

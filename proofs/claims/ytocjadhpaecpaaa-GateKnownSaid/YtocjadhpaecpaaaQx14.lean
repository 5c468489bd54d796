-- written by this session's own program (wip/tools/myprint.py), over the kit's print
import Derived.Test.YtocjadhpaecpaaaQx0
import Derived.Test.YtocjadhpaecpaaaQx8
import Derived.Test.YtocjadhpaecpaaaQx13
namespace Go.Proofs.Ytocjadhpaecpaaa.Q
open Go.RowKit Go.Proofs.YtocjadhpaecpaaaW.PrintWords Go.Proofs.YtocjadhpaecpaaaW.PrintLast Go.Proofs.YtocjadhpaecpaaaW.PrintMore
open Go.Proofs.YtocjadhpaecpaaaV
attribute [local go_sem] max2_int min2_int max_two min_two max_three min_three max_four min_four   -- for this text's walks alone
set_option linter.unusedVariables false
set_option linter.unusedSimpArgs false

/-! ### portreevelaw16_may: function 10 -/
def portreevelaw16_may.f (k : Nat) (a0_0 : Int) (l0_1 : List (S76)) (l0_2 : List (S72)) (l0_3 : List (S64)) (a1 : ByteArray) (a2 : Int) : Option (Bool) := (portreeveref04_Right.f k a0_0 l0_1 l0_2 l0_3).bind fun t193 => (if t193 = true then (if (a1.size : Int) ≥ 1 then (if (a1.size : Int) ≤ 16 then (if a2 ≥ 0 then (some (decide (a2 ≤ 1000000000))) else (some false)) else (some false)) else (some false)) else (some false))
theorem portreevelaw16_may.mono : ∀ a0 a1 a2 a3 a4 a5 k, LeO (portreevelaw16_may.f k a0 a1 a2 a3 a4 a5) (portreevelaw16_may.f (k + 1) a0 a1 a2 a3 a4 a5) := by
  intro a0 a1 a2 a3 a4 a5 k
  unfold portreevelaw16_may.f
  repeat' first
      | (with_reducible exact portreeveref04_Right.mono _ _ _ _ _)
      | (with_reducible exact LeO.refl _)
      | (with_reducible exact LeO.none _)
      | (with_reducible refine LeO.ite ?_ ?_)
      | (with_reducible refine LeO.bind ?_ (fun _ => ?_))
      | exact portreeveref04_Right.mono _ _ _ _ _
      | exact LeO.none _
      | refine LeO.ite ?_ ?_
      | refine LeO.bind ?_ (fun _ => ?_)
set_option maxHeartbeats 8000000 in
set_option maxRecDepth 100000 in
theorem portreevelaw16_may.calls (k : Nat) (a0_0 : Int) (A0_1 : Option Addr) (c0_1 : Nat) (l0_1 : List (S76)) (A0_2 : Option Addr) (c0_2 : Nat) (l0_2 : List (S72)) (A0_3 : Option Addr) (c0_3 : Nat) (l0_3 : List (S64)) (a1 : ByteArray) (a2 : Int) (r : Bool) (w : World) (hr0_1 : Kd.C k76 w A0_1 l0_1.length l0_1) (hc0_1 : l0_1.length ≤ c0_1) (hr0_2 : Kd.C k72 w A0_2 l0_2.length l0_2) (hc0_2 : l0_2.length ≤ c0_2) (hr0_3 : Kd.C k64 w A0_3 l0_3.length l0_3) (hc0_3 : l0_3.length ≤ c0_3) (h : portreevelaw16_may.f k a0_0 l0_1 l0_2 l0_3 a1 a2 = some r) :
    Calls Try.prog 10 #[.agg #[.int .i64 a0_0, .slice A0_1 l0_1.length c0_1, .slice A0_2 l0_2.length c0_2, .slice A0_3 l0_3.length c0_3], .string a1, .int .i64 a2] w fun e w' => e = .returned (.bool r) ∧ Below w.heap.size w w' := by
  have hu26 := Try.underlying26
  have HR0_1 := Aside0.mk hr0_1
  have HC0_1 := Aside0.mk hc0_1
  clear hr0_1 hc0_1
  have HR0_2 := Aside0.mk hr0_2
  have HC0_2 := Aside0.mk hc0_2
  clear hr0_2 hc0_2
  have HR0_3 := Aside0.mk hr0_3
  have HC0_3 := Aside0.mk hc0_3
  clear hr0_3 hc0_3
  have HB := Aside0.mk (Below.refl w.heap.size w)
  have H : ((portreeveref04_Right.f k a0_0 l0_1 l0_2 l0_3).bind fun t193 => (if t193 = true then (if (a1.size : Int) ≥ 1 then (if (a1.size : Int) ≤ 16 then (if a2 ≥ 0 then (some (decide (a2 ≤ 1000000000))) else (some false)) else (some false)) else (some false)) else (some false))) = some r := h
  clear h
  replace H := Option.bind_eq_some_iff.mp H
  obtain ⟨t193, A40, H⟩ := H
  replace H : (if t193 = true then (if (a1.size : Int) ≥ 1 then (if (a1.size : Int) ≤ 16 then (if a2 ≥ 0 then (some (decide (a2 ≤ 1000000000))) else (some false)) else (some false)) else (some false)) else (some false)) = some r := H
  have A4 := Aside0.mk A40
  clear A40
  by_cases c5 : t193 = true
  · subst c5
    have H1 : (if (a1.size : Int) ≥ 1 then (if (a1.size : Int) ≤ 16 then (if a2 ≥ 0 then (some (decide (a2 ≤ 1000000000))) else (some false)) else (some false)) else (some false)) = some r := by rw [if_pos rfl] at H; exact H
    clear H
    have H := H1
    clear H1
    by_cases c6 : (a1.size : Int) ≥ 1
    · rw [if_pos c6] at H
      have c6b0 : decide (1 ≤ (a1.size : Int)) = true := decide_eq_true c6
      have c6b1 : decide (1 ≤ a1.size) = true := decide_eq_true (by omega)
      clear c6
      by_cases c7 : (a1.size : Int) ≤ 16
      · rw [if_pos c7] at H
        have c7b0 : decide ((a1.size : Int) ≤ 16) = true := decide_eq_true c7
        have c7b1 : decide (a1.size ≤ 16) = true := decide_eq_true (by omega)
        clear c7
        by_cases c8 : a2 ≥ 0
        · rw [if_pos c8] at H
          have c8b0 : decide (0 ≤ a2) = true := decide_eq_true c8
          clear c8
          obtain rfl := Option.some.inj H
          go_enter Try.func10, Try.ntmps10
          go_wp2_with (first | ((with_reducible refine gate_dst (N := 3) rfl ?_); (try (refine gate_guard (by rfl) ?_; dsimp only)); refine box_event ?hg (N := 3) ?hd (cs := #[.int .i64 a0_0, .slice A0_1 l0_1.length c0_1, .slice A0_2 l0_2.length c0_2, .slice A0_3 l0_3.length c0_3]) (t := 26) ?hr ?_; (case hd => rfl); (case hg => rfl); (case hr => first | (go_simp; done) | (go_simp; rfl)); intro gb192 hg w9 hbox hb; have n0_ := Aside0.mk (below_step (by repeat (first | (with_reducible first | exact HB.out | apply pA | apply pN | apply pD) | exact HB.out)) hb); have n1_ := Aside0.mk (hbox); have n2_ := Aside0.mk ((by rw [hg]; exact (below_size (by repeat (first | (with_reducible first | exact HB.out | apply pA | apply pN | apply pD) | exact HB.out))) : w.heap.size ≤ gb192)); have n3_ := Aside0.mk ((by rw [hg]; exact (below_size (by repeat (first | (with_reducible first | exact HB.out | apply pA | apply pN | apply pD) | exact HB.out))) : w.heap.size ≤ gb192)); clear HB; have HB := n0_; have BK192 := n1_; have GW192 := n2_; have GE192 := n3_; clear n0_ n1_ n2_ n3_; clear hb hbox hg; have hcz10_0 : w9.cell? ⟨gb192, 0, none⟩ = some (.int .i64 a0_0) := (blk_cell BK192.out 0).trans rfl; have hcz10_1 : w9.cell? ⟨gb192, 1, none⟩ = some (.slice A0_1 l0_1.length c0_1) := (blk_cell BK192.out 1).trans rfl; have hcz10_2 : w9.cell? ⟨gb192, 2, none⟩ = some (.slice A0_2 l0_2.length c0_2) := (blk_cell BK192.out 2).trans rfl; have hcz10_3 : w9.cell? ⟨gb192, 3, none⟩ = some (.slice A0_3 l0_3.length c0_3) := (blk_cell BK192.out 3).trans rfl; have hfz10_0 := blk_frozen BK192.out 0; have hfz10_1 := blk_frozen BK192.out 1; have hfz10_2 := blk_frozen BK192.out 2; have hfz10_3 := blk_frozen BK192.out 3) | ((with_reducible refine gate_callee (f := 17) rfl ?_); refine goesL_ (some 8) rfl rfl Try.func17 (by kernel_rfl) rfl #[.agg #[.int .i64 a0_0, .slice A0_1 l0_1.length c0_1, .slice A0_2 l0_2.length c0_2, .slice A0_3 l0_3.length c0_3]] rfl (by (try simp only [List.map_toArray, List.map_cons, List.map_nil]); first | done | rfl | (simp only [List.length_drop, List.length_take]; rfl)) ?_; (with_reducible refine (portreeveref04_Right.calls k a0_0 _ _ l0_1 _ _ l0_2 _ _ l0_3 true _ ?side1 ?side2 ?side3 ?side4 ?side5 ?side6 A4.out).mono ?_); (case side1 => repeat (first | exact (Kd.C_below HR0_1.out HB.out) | (with_reducible refine Kd.C_alloc ?_ _) | (with_reducible refine Kd.C_drewN ?_ _) | (with_reducible refine Kd.C_drew ?_))); (case side2 => exact HC0_1.out); (case side3 => repeat (first | exact (Kd.C_below HR0_2.out HB.out) | (with_reducible refine Kd.C_alloc ?_ _) | (with_reducible refine Kd.C_drewN ?_ _) | (with_reducible refine Kd.C_drew ?_))); (case side4 => exact HC0_2.out); (case side5 => repeat (first | exact (Kd.C_below HR0_3.out HB.out) | (with_reducible refine Kd.C_alloc ?_ _) | (with_reducible refine Kd.C_drewN ?_ _) | (with_reducible refine Kd.C_drew ?_))); (case side6 => exact HC0_3.out); rintro e w11 ⟨rfl, hb⟩; refine ⟨_, rfl, ?_⟩; have n0_ := Aside0.mk (blk_below (g := gb192) (o := .cells #[.int .i64 a0_0, .slice A0_1 l0_1.length c0_1, .slice A0_2 l0_2.length c0_2, .slice A0_3 l0_3.length c0_3] 26 (0, 0)) (by (with_reducible repeat (first | refine qN ?_ _ | refine qD ?_ | refine qA ?_ _)); exact BK192.out) hb); have n1_ := Aside0.mk (below_step (by repeat (first | (with_reducible first | exact HB.out | apply pA | apply pN | apply pD | refine pS ?_ GE192.out) | exact HB.out)) hb); clear BK192; clear HB; have BK192 := n0_; have HB := n1_; clear n0_ n1_; (try clear hb); (try clear hb2); (try clear hk); (try clear hi)))
          go_ret
          exact ⟨by first | rfl | (simp [errW_none, errW_some] <;> rfl) | (simp [*, errW_none, errW_some] <;> rfl), by repeat (first | (with_reducible first | exact HB.out | apply pA | apply pN | apply pD | refine pS ?_ GE192.out) | exact HB.out)⟩
        · rw [if_neg c8] at H
          have c8b0 : decide (0 ≤ a2) = false := decide_eq_false c8
          clear c8
          obtain rfl := Option.some.inj H
          go_enter Try.func10, Try.ntmps10
          go_wp2_with (first | ((with_reducible refine gate_dst (N := 3) rfl ?_); (try (refine gate_guard (by rfl) ?_; dsimp only)); refine box_event ?hg (N := 3) ?hd (cs := #[.int .i64 a0_0, .slice A0_1 l0_1.length c0_1, .slice A0_2 l0_2.length c0_2, .slice A0_3 l0_3.length c0_3]) (t := 26) ?hr ?_; (case hd => rfl); (case hg => rfl); (case hr => first | (go_simp; done) | (go_simp; rfl)); intro gb192 hg w12 hbox hb; have n0_ := Aside0.mk (below_step (by repeat (first | (with_reducible first | exact HB.out | apply pA | apply pN | apply pD) | exact HB.out)) hb); have n1_ := Aside0.mk (hbox); have n2_ := Aside0.mk ((by rw [hg]; exact (below_size (by repeat (first | (with_reducible first | exact HB.out | apply pA | apply pN | apply pD) | exact HB.out))) : w.heap.size ≤ gb192)); have n3_ := Aside0.mk ((by rw [hg]; exact (below_size (by repeat (first | (with_reducible first | exact HB.out | apply pA | apply pN | apply pD) | exact HB.out))) : w.heap.size ≤ gb192)); clear HB; have HB := n0_; have BK192 := n1_; have GW192 := n2_; have GE192 := n3_; clear n0_ n1_ n2_ n3_; clear hb hbox hg; have hcz13_0 : w12.cell? ⟨gb192, 0, none⟩ = some (.int .i64 a0_0) := (blk_cell BK192.out 0).trans rfl; have hcz13_1 : w12.cell? ⟨gb192, 1, none⟩ = some (.slice A0_1 l0_1.length c0_1) := (blk_cell BK192.out 1).trans rfl; have hcz13_2 : w12.cell? ⟨gb192, 2, none⟩ = some (.slice A0_2 l0_2.length c0_2) := (blk_cell BK192.out 2).trans rfl; have hcz13_3 : w12.cell? ⟨gb192, 3, none⟩ = some (.slice A0_3 l0_3.length c0_3) := (blk_cell BK192.out 3).trans rfl; have hfz13_0 := blk_frozen BK192.out 0; have hfz13_1 := blk_frozen BK192.out 1; have hfz13_2 := blk_frozen BK192.out 2; have hfz13_3 := blk_frozen BK192.out 3) | ((with_reducible refine gate_callee (f := 17) rfl ?_); refine goesL_ (some 8) rfl rfl Try.func17 (by kernel_rfl) rfl #[.agg #[.int .i64 a0_0, .slice A0_1 l0_1.length c0_1, .slice A0_2 l0_2.length c0_2, .slice A0_3 l0_3.length c0_3]] rfl (by (try simp only [List.map_toArray, List.map_cons, List.map_nil]); first | done | rfl | (simp only [List.length_drop, List.length_take]; rfl)) ?_; (with_reducible refine (portreeveref04_Right.calls k a0_0 _ _ l0_1 _ _ l0_2 _ _ l0_3 true _ ?side1 ?side2 ?side3 ?side4 ?side5 ?side6 A4.out).mono ?_); (case side1 => repeat (first | exact (Kd.C_below HR0_1.out HB.out) | (with_reducible refine Kd.C_alloc ?_ _) | (with_reducible refine Kd.C_drewN ?_ _) | (with_reducible refine Kd.C_drew ?_))); (case side2 => exact HC0_1.out); (case side3 => repeat (first | exact (Kd.C_below HR0_2.out HB.out) | (with_reducible refine Kd.C_alloc ?_ _) | (with_reducible refine Kd.C_drewN ?_ _) | (with_reducible refine Kd.C_drew ?_))); (case side4 => exact HC0_2.out); (case side5 => repeat (first | exact (Kd.C_below HR0_3.out HB.out) | (with_reducible refine Kd.C_alloc ?_ _) | (with_reducible refine Kd.C_drewN ?_ _) | (with_reducible refine Kd.C_drew ?_))); (case side6 => exact HC0_3.out); rintro e w14 ⟨rfl, hb⟩; refine ⟨_, rfl, ?_⟩; have n0_ := Aside0.mk (blk_below (g := gb192) (o := .cells #[.int .i64 a0_0, .slice A0_1 l0_1.length c0_1, .slice A0_2 l0_2.length c0_2, .slice A0_3 l0_3.length c0_3] 26 (0, 0)) (by (with_reducible repeat (first | refine qN ?_ _ | refine qD ?_ | refine qA ?_ _)); exact BK192.out) hb); have n1_ := Aside0.mk (below_step (by repeat (first | (with_reducible first | exact HB.out | apply pA | apply pN | apply pD | refine pS ?_ GE192.out) | exact HB.out)) hb); clear BK192; clear HB; have BK192 := n0_; have HB := n1_; clear n0_ n1_; (try clear hb); (try clear hb2); (try clear hk); (try clear hi)))
          go_ret
          exact ⟨by first | rfl | (simp [errW_none, errW_some] <;> rfl) | (simp [*, errW_none, errW_some] <;> rfl), by repeat (first | (with_reducible first | exact HB.out | apply pA | apply pN | apply pD | refine pS ?_ GE192.out) | exact HB.out)⟩
      · rw [if_neg c7] at H
        have c7b0 : decide ((a1.size : Int) ≤ 16) = false := decide_eq_false c7
        have c7b1 : decide (a1.size ≤ 16) = false := decide_eq_false (by omega)
        clear c7
        obtain rfl := Option.some.inj H
        go_enter Try.func10, Try.ntmps10
        go_wp2_with (first | ((with_reducible refine gate_dst (N := 3) rfl ?_); (try (refine gate_guard (by rfl) ?_; dsimp only)); refine box_event ?hg (N := 3) ?hd (cs := #[.int .i64 a0_0, .slice A0_1 l0_1.length c0_1, .slice A0_2 l0_2.length c0_2, .slice A0_3 l0_3.length c0_3]) (t := 26) ?hr ?_; (case hd => rfl); (case hg => rfl); (case hr => first | (go_simp; done) | (go_simp; rfl)); intro gb192 hg w15 hbox hb; have n0_ := Aside0.mk (below_step (by repeat (first | (with_reducible first | exact HB.out | apply pA | apply pN | apply pD) | exact HB.out)) hb); have n1_ := Aside0.mk (hbox); have n2_ := Aside0.mk ((by rw [hg]; exact (below_size (by repeat (first | (with_reducible first | exact HB.out | apply pA | apply pN | apply pD) | exact HB.out))) : w.heap.size ≤ gb192)); have n3_ := Aside0.mk ((by rw [hg]; exact (below_size (by repeat (first | (with_reducible first | exact HB.out | apply pA | apply pN | apply pD) | exact HB.out))) : w.heap.size ≤ gb192)); clear HB; have HB := n0_; have BK192 := n1_; have GW192 := n2_; have GE192 := n3_; clear n0_ n1_ n2_ n3_; clear hb hbox hg; have hcz16_0 : w15.cell? ⟨gb192, 0, none⟩ = some (.int .i64 a0_0) := (blk_cell BK192.out 0).trans rfl; have hcz16_1 : w15.cell? ⟨gb192, 1, none⟩ = some (.slice A0_1 l0_1.length c0_1) := (blk_cell BK192.out 1).trans rfl; have hcz16_2 : w15.cell? ⟨gb192, 2, none⟩ = some (.slice A0_2 l0_2.length c0_2) := (blk_cell BK192.out 2).trans rfl; have hcz16_3 : w15.cell? ⟨gb192, 3, none⟩ = some (.slice A0_3 l0_3.length c0_3) := (blk_cell BK192.out 3).trans rfl; have hfz16_0 := blk_frozen BK192.out 0; have hfz16_1 := blk_frozen BK192.out 1; have hfz16_2 := blk_frozen BK192.out 2; have hfz16_3 := blk_frozen BK192.out 3) | ((with_reducible refine gate_callee (f := 17) rfl ?_); refine goesL_ (some 8) rfl rfl Try.func17 (by kernel_rfl) rfl #[.agg #[.int .i64 a0_0, .slice A0_1 l0_1.length c0_1, .slice A0_2 l0_2.length c0_2, .slice A0_3 l0_3.length c0_3]] rfl (by (try simp only [List.map_toArray, List.map_cons, List.map_nil]); first | done | rfl | (simp only [List.length_drop, List.length_take]; rfl)) ?_; (with_reducible refine (portreeveref04_Right.calls k a0_0 _ _ l0_1 _ _ l0_2 _ _ l0_3 true _ ?side1 ?side2 ?side3 ?side4 ?side5 ?side6 A4.out).mono ?_); (case side1 => repeat (first | exact (Kd.C_below HR0_1.out HB.out) | (with_reducible refine Kd.C_alloc ?_ _) | (with_reducible refine Kd.C_drewN ?_ _) | (with_reducible refine Kd.C_drew ?_))); (case side2 => exact HC0_1.out); (case side3 => repeat (first | exact (Kd.C_below HR0_2.out HB.out) | (with_reducible refine Kd.C_alloc ?_ _) | (with_reducible refine Kd.C_drewN ?_ _) | (with_reducible refine Kd.C_drew ?_))); (case side4 => exact HC0_2.out); (case side5 => repeat (first | exact (Kd.C_below HR0_3.out HB.out) | (with_reducible refine Kd.C_alloc ?_ _) | (with_reducible refine Kd.C_drewN ?_ _) | (with_reducible refine Kd.C_drew ?_))); (case side6 => exact HC0_3.out); rintro e w17 ⟨rfl, hb⟩; refine ⟨_, rfl, ?_⟩; have n0_ := Aside0.mk (blk_below (g := gb192) (o := .cells #[.int .i64 a0_0, .slice A0_1 l0_1.length c0_1, .slice A0_2 l0_2.length c0_2, .slice A0_3 l0_3.length c0_3] 26 (0, 0)) (by (with_reducible repeat (first | refine qN ?_ _ | refine qD ?_ | refine qA ?_ _)); exact BK192.out) hb); have n1_ := Aside0.mk (below_step (by repeat (first | (with_reducible first | exact HB.out | apply pA | apply pN | apply pD | refine pS ?_ GE192.out) | exact HB.out)) hb); clear BK192; clear HB; have BK192 := n0_; have HB := n1_; clear n0_ n1_; (try clear hb); (try clear hb2); (try clear hk); (try clear hi)))
        go_ret
        exact ⟨by first | rfl | (simp [errW_none, errW_some] <;> rfl) | (simp [*, errW_none, errW_some] <;> rfl), by repeat (first | (with_reducible first | exact HB.out | apply pA | apply pN | apply pD | refine pS ?_ GE192.out) | exact HB.out)⟩
    · rw [if_neg c6] at H
      have c6b0 : decide (1 ≤ (a1.size : Int)) = false := decide_eq_false c6
      have c6b1 : decide (1 ≤ a1.size) = false := decide_eq_false (by omega)
      clear c6
      obtain rfl := Option.some.inj H
      go_enter Try.func10, Try.ntmps10
      go_wp2_with (first | ((with_reducible refine gate_dst (N := 3) rfl ?_); (try (refine gate_guard (by rfl) ?_; dsimp only)); refine box_event ?hg (N := 3) ?hd (cs := #[.int .i64 a0_0, .slice A0_1 l0_1.length c0_1, .slice A0_2 l0_2.length c0_2, .slice A0_3 l0_3.length c0_3]) (t := 26) ?hr ?_; (case hd => rfl); (case hg => rfl); (case hr => first | (go_simp; done) | (go_simp; rfl)); intro gb192 hg w18 hbox hb; have n0_ := Aside0.mk (below_step (by repeat (first | (with_reducible first | exact HB.out | apply pA | apply pN | apply pD) | exact HB.out)) hb); have n1_ := Aside0.mk (hbox); have n2_ := Aside0.mk ((by rw [hg]; exact (below_size (by repeat (first | (with_reducible first | exact HB.out | apply pA | apply pN | apply pD) | exact HB.out))) : w.heap.size ≤ gb192)); have n3_ := Aside0.mk ((by rw [hg]; exact (below_size (by repeat (first | (with_reducible first | exact HB.out | apply pA | apply pN | apply pD) | exact HB.out))) : w.heap.size ≤ gb192)); clear HB; have HB := n0_; have BK192 := n1_; have GW192 := n2_; have GE192 := n3_; clear n0_ n1_ n2_ n3_; clear hb hbox hg; have hcz19_0 : w18.cell? ⟨gb192, 0, none⟩ = some (.int .i64 a0_0) := (blk_cell BK192.out 0).trans rfl; have hcz19_1 : w18.cell? ⟨gb192, 1, none⟩ = some (.slice A0_1 l0_1.length c0_1) := (blk_cell BK192.out 1).trans rfl; have hcz19_2 : w18.cell? ⟨gb192, 2, none⟩ = some (.slice A0_2 l0_2.length c0_2) := (blk_cell BK192.out 2).trans rfl; have hcz19_3 : w18.cell? ⟨gb192, 3, none⟩ = some (.slice A0_3 l0_3.length c0_3) := (blk_cell BK192.out 3).trans rfl; have hfz19_0 := blk_frozen BK192.out 0; have hfz19_1 := blk_frozen BK192.out 1; have hfz19_2 := blk_frozen BK192.out 2; have hfz19_3 := blk_frozen BK192.out 3) | ((with_reducible refine gate_callee (f := 17) rfl ?_); refine goesL_ (some 8) rfl rfl Try.func17 (by kernel_rfl) rfl #[.agg #[.int .i64 a0_0, .slice A0_1 l0_1.length c0_1, .slice A0_2 l0_2.length c0_2, .slice A0_3 l0_3.length c0_3]] rfl (by (try simp only [List.map_toArray, List.map_cons, List.map_nil]); first | done | rfl | (simp only [List.length_drop, List.length_take]; rfl)) ?_; (with_reducible refine (portreeveref04_Right.calls k a0_0 _ _ l0_1 _ _ l0_2 _ _ l0_3 true _ ?side1 ?side2 ?side3 ?side4 ?side5 ?side6 A4.out).mono ?_); (case side1 => repeat (first | exact (Kd.C_below HR0_1.out HB.out) | (with_reducible refine Kd.C_alloc ?_ _) | (with_reducible refine Kd.C_drewN ?_ _) | (with_reducible refine Kd.C_drew ?_))); (case side2 => exact HC0_1.out); (case side3 => repeat (first | exact (Kd.C_below HR0_2.out HB.out) | (with_reducible refine Kd.C_alloc ?_ _) | (with_reducible refine Kd.C_drewN ?_ _) | (with_reducible refine Kd.C_drew ?_))); (case side4 => exact HC0_2.out); (case side5 => repeat (first | exact (Kd.C_below HR0_3.out HB.out) | (with_reducible refine Kd.C_alloc ?_ _) | (with_reducible refine Kd.C_drewN ?_ _) | (with_reducible refine Kd.C_drew ?_))); (case side6 => exact HC0_3.out); rintro e w20 ⟨rfl, hb⟩; refine ⟨_, rfl, ?_⟩; have n0_ := Aside0.mk (blk_below (g := gb192) (o := .cells #[.int .i64 a0_0, .slice A0_1 l0_1.length c0_1, .slice A0_2 l0_2.length c0_2, .slice A0_3 l0_3.length c0_3] 26 (0, 0)) (by (with_reducible repeat (first | refine qN ?_ _ | refine qD ?_ | refine qA ?_ _)); exact BK192.out) hb); have n1_ := Aside0.mk (below_step (by repeat (first | (with_reducible first | exact HB.out | apply pA | apply pN | apply pD | refine pS ?_ GE192.out) | exact HB.out)) hb); clear BK192; clear HB; have BK192 := n0_; have HB := n1_; clear n0_ n1_; (try clear hb); (try clear hb2); (try clear hk); (try clear hi)))
      go_ret
      exact ⟨by first | rfl | (simp [errW_none, errW_some] <;> rfl) | (simp [*, errW_none, errW_some] <;> rfl), by repeat (first | (with_reducible first | exact HB.out | apply pA | apply pN | apply pD | refine pS ?_ GE192.out) | exact HB.out)⟩
  · replace c5 := Bool.eq_false_iff.mpr c5
    subst c5
    have H1 : (some false) = some r := by rw [if_neg (show ¬ (false = true) by decide)] at H; exact H
    clear H
    have H := H1
    clear H1
    obtain rfl := Option.some.inj H
    go_enter Try.func10, Try.ntmps10
    go_wp2_with (first | ((with_reducible refine gate_dst (N := 3) rfl ?_); (try (refine gate_guard (by rfl) ?_; dsimp only)); refine box_event ?hg (N := 3) ?hd (cs := #[.int .i64 a0_0, .slice A0_1 l0_1.length c0_1, .slice A0_2 l0_2.length c0_2, .slice A0_3 l0_3.length c0_3]) (t := 26) ?hr ?_; (case hd => rfl); (case hg => rfl); (case hr => first | (go_simp; done) | (go_simp; rfl)); intro gb192 hg w21 hbox hb; have n0_ := Aside0.mk (below_step (by repeat (first | (with_reducible first | exact HB.out | apply pA | apply pN | apply pD) | exact HB.out)) hb); have n1_ := Aside0.mk (hbox); have n2_ := Aside0.mk ((by rw [hg]; exact (below_size (by repeat (first | (with_reducible first | exact HB.out | apply pA | apply pN | apply pD) | exact HB.out))) : w.heap.size ≤ gb192)); have n3_ := Aside0.mk ((by rw [hg]; exact (below_size (by repeat (first | (with_reducible first | exact HB.out | apply pA | apply pN | apply pD) | exact HB.out))) : w.heap.size ≤ gb192)); clear HB; have HB := n0_; have BK192 := n1_; have GW192 := n2_; have GE192 := n3_; clear n0_ n1_ n2_ n3_; clear hb hbox hg; have hcz22_0 : w21.cell? ⟨gb192, 0, none⟩ = some (.int .i64 a0_0) := (blk_cell BK192.out 0).trans rfl; have hcz22_1 : w21.cell? ⟨gb192, 1, none⟩ = some (.slice A0_1 l0_1.length c0_1) := (blk_cell BK192.out 1).trans rfl; have hcz22_2 : w21.cell? ⟨gb192, 2, none⟩ = some (.slice A0_2 l0_2.length c0_2) := (blk_cell BK192.out 2).trans rfl; have hcz22_3 : w21.cell? ⟨gb192, 3, none⟩ = some (.slice A0_3 l0_3.length c0_3) := (blk_cell BK192.out 3).trans rfl; have hfz22_0 := blk_frozen BK192.out 0; have hfz22_1 := blk_frozen BK192.out 1; have hfz22_2 := blk_frozen BK192.out 2; have hfz22_3 := blk_frozen BK192.out 3) | ((with_reducible refine gate_callee (f := 17) rfl ?_); refine goesL_ (some 8) rfl rfl Try.func17 (by kernel_rfl) rfl #[.agg #[.int .i64 a0_0, .slice A0_1 l0_1.length c0_1, .slice A0_2 l0_2.length c0_2, .slice A0_3 l0_3.length c0_3]] rfl (by (try simp only [List.map_toArray, List.map_cons, List.map_nil]); first | done | rfl | (simp only [List.length_drop, List.length_take]; rfl)) ?_; (with_reducible refine (portreeveref04_Right.calls k a0_0 _ _ l0_1 _ _ l0_2 _ _ l0_3 false _ ?side1 ?side2 ?side3 ?side4 ?side5 ?side6 A4.out).mono ?_); (case side1 => repeat (first | exact (Kd.C_below HR0_1.out HB.out) | (with_reducible refine Kd.C_alloc ?_ _) | (with_reducible refine Kd.C_drewN ?_ _) | (with_reducible refine Kd.C_drew ?_))); (case side2 => exact HC0_1.out); (case side3 => repeat (first | exact (Kd.C_below HR0_2.out HB.out) | (with_reducible refine Kd.C_alloc ?_ _) | (with_reducible refine Kd.C_drewN ?_ _) | (with_reducible refine Kd.C_drew ?_))); (case side4 => exact HC0_2.out); (case side5 => repeat (first | exact (Kd.C_below HR0_3.out HB.out) | (with_reducible refine Kd.C_alloc ?_ _) | (with_reducible refine Kd.C_drewN ?_ _) | (with_reducible refine Kd.C_drew ?_))); (case side6 => exact HC0_3.out); rintro e w23 ⟨rfl, hb⟩; refine ⟨_, rfl, ?_⟩; have n0_ := Aside0.mk (blk_below (g := gb192) (o := .cells #[.int .i64 a0_0, .slice A0_1 l0_1.length c0_1, .slice A0_2 l0_2.length c0_2, .slice A0_3 l0_3.length c0_3] 26 (0, 0)) (by (with_reducible repeat (first | refine qN ?_ _ | refine qD ?_ | refine qA ?_ _)); exact BK192.out) hb); have n1_ := Aside0.mk (below_step (by repeat (first | (with_reducible first | exact HB.out | apply pA | apply pN | apply pD | refine pS ?_ GE192.out) | exact HB.out)) hb); clear BK192; clear HB; have BK192 := n0_; have HB := n1_; clear n0_ n1_; (try clear hb); (try clear hb2); (try clear hk); (try clear hi)))
    go_ret
    exact ⟨by first | rfl | (simp [errW_none, errW_some] <;> rfl) | (simp [*, errW_none, errW_some] <;> rfl), by repeat (first | (with_reducible first | exact HB.out | apply pA | apply pN | apply pD | refine pS ?_ GE192.out) | exact HB.out)⟩

/-! ### portreeveref04_May: function 21 -/
def portreeveref04_May.j0 : Nat → Bool → Bool → Int → Int → Int → Int → ByteArray → Int → Int → Int → Int → Option (Bool)
  | 0, _, _, _, _, _, _, _, _, _, _, _ => none
  | k + 1, x3, x34, x195000, x195001, x195002, x195003, x195004, x195005, x195006, x195007, x195008 => if x34 = true then (some false) else (if x3 = true then (if x195008 ≥ 0 then (if x195008 ≤ 1000000000 then (if x195007 ≥ 0 then (some (decide (x195007 ≤ 255))) else (some false)) else (some false)) else (some false)) else (some false))
def portreeveref04_May.f (k : Nat) (a0_0 : Int) (a0_1 : Int) (a0_2 : Int) (a0_3 : Int) (a0_4 : ByteArray) (a0_5 : Int) (a0_6 : Int) (a0_7 : Int) (a0_8 : Int) : Option (Bool) := (portreeveref04_name.f a0_4).bind fun t195 => (if a0_0 < 1 then (portreeveref04_May.j0 k t195 true a0_0 a0_1 a0_2 a0_3 a0_4 a0_5 a0_6 a0_7 a0_8) else (if a0_0 > 6 then (portreeveref04_May.j0 k t195 true a0_0 a0_1 a0_2 a0_3 a0_4 a0_5 a0_6 a0_7 a0_8) else (if a0_1 < 0 then (portreeveref04_May.j0 k t195 true a0_0 a0_1 a0_2 a0_3 a0_4 a0_5 a0_6 a0_7 a0_8) else (if a0_1 > 1000000000 then (portreeveref04_May.j0 k t195 true a0_0 a0_1 a0_2 a0_3 a0_4 a0_5 a0_6 a0_7 a0_8) else (if a0_2 < 0 then (portreeveref04_May.j0 k t195 true a0_0 a0_1 a0_2 a0_3 a0_4 a0_5 a0_6 a0_7 a0_8) else (portreeveref04_May.j0 k t195 (decide (a0_2 > 7)) a0_0 a0_1 a0_2 a0_3 a0_4 a0_5 a0_6 a0_7 a0_8))))))
theorem portreeveref04_May.mono_l : ∀ k, (∀ y0 y1 y2 y3 y4 y5 y6 y7 y8 y9 y10, LeO (portreeveref04_May.j0 k y0 y1 y2 y3 y4 y5 y6 y7 y8 y9 y10) (portreeveref04_May.j0 (k + 1) y0 y1 y2 y3 y4 y5 y6 y7 y8 y9 y10))
  | 0 => fun _ _ _ _ _ _ _ _ _ _ _ r h => by simp [portreeveref04_May.j0] at h
  | k + 1 => by
    have ih0 := portreeveref04_May.mono_l k
    · intro y0 y1 y2 y3 y4 y5 y6 y7 y8 y9 y10
      unfold portreeveref04_May.j0
      repeat' first
      | (with_reducible exact ih0 _ _ _ _ _ _ _ _ _ _ _)
      | (with_reducible exact LeO.refl _)
      | (with_reducible exact LeO.none _)
      | (with_reducible refine LeO.ite ?_ ?_)
      | (with_reducible refine LeO.bind ?_ (fun _ => ?_))
      | exact ih0 _ _ _ _ _ _ _ _ _ _ _
      | exact LeO.none _
      | refine LeO.ite ?_ ?_
      | refine LeO.bind ?_ (fun _ => ?_)
theorem portreeveref04_May.mono : ∀ a0 a1 a2 a3 a4 a5 a6 a7 a8 k, LeO (portreeveref04_May.f k a0 a1 a2 a3 a4 a5 a6 a7 a8) (portreeveref04_May.f (k + 1) a0 a1 a2 a3 a4 a5 a6 a7 a8) := by
  intro a0 a1 a2 a3 a4 a5 a6 a7 a8 k
  have ih0 := portreeveref04_May.mono_l k
  unfold portreeveref04_May.f
  repeat' first
      | (with_reducible exact ih0 _ _ _ _ _ _ _ _ _ _ _)
      | (with_reducible exact LeO.refl _)
      | (with_reducible exact LeO.none _)
      | (with_reducible refine LeO.ite ?_ ?_)
      | (with_reducible refine LeO.bind ?_ (fun _ => ?_))
      | exact ih0 _ _ _ _ _ _ _ _ _ _ _
      | exact LeO.none _
      | refine LeO.ite ?_ ?_
      | refine LeO.bind ?_ (fun _ => ?_)
set_option maxHeartbeats 8000000 in
set_option maxRecDepth 100000 in
theorem portreeveref04_May.calls (k : Nat) (a0_0 : Int) (a0_1 : Int) (a0_2 : Int) (a0_3 : Int) (a0_4 : ByteArray) (a0_5 : Int) (a0_6 : Int) (a0_7 : Int) (a0_8 : Int) (r : Bool) (w : World) (h : portreeveref04_May.f k a0_0 a0_1 a0_2 a0_3 a0_4 a0_5 a0_6 a0_7 a0_8 = some r) :
    Calls Try.prog 21 #[.agg #[.int .i64 a0_0, .int .i64 a0_1, .int .i64 a0_2, .int .u32 a0_3, .string a0_4, .int .u64 a0_5, .int .u64 a0_6, .int .i64 a0_7, .int .i64 a0_8]] w fun e w' => e = .returned (.bool r) ∧ Below w.heap.size w w' := by
  have hu41 := Try.underlying41
  have HB := Aside0.mk (Below.refl w.heap.size w)
  have H : ((portreeveref04_name.f a0_4).bind fun t195 => (if a0_0 < 1 then (portreeveref04_May.j0 k t195 true a0_0 a0_1 a0_2 a0_3 a0_4 a0_5 a0_6 a0_7 a0_8) else (if a0_0 > 6 then (portreeveref04_May.j0 k t195 true a0_0 a0_1 a0_2 a0_3 a0_4 a0_5 a0_6 a0_7 a0_8) else (if a0_1 < 0 then (portreeveref04_May.j0 k t195 true a0_0 a0_1 a0_2 a0_3 a0_4 a0_5 a0_6 a0_7 a0_8) else (if a0_1 > 1000000000 then (portreeveref04_May.j0 k t195 true a0_0 a0_1 a0_2 a0_3 a0_4 a0_5 a0_6 a0_7 a0_8) else (if a0_2 < 0 then (portreeveref04_May.j0 k t195 true a0_0 a0_1 a0_2 a0_3 a0_4 a0_5 a0_6 a0_7 a0_8) else (portreeveref04_May.j0 k t195 (decide (a0_2 > 7)) a0_0 a0_1 a0_2 a0_3 a0_4 a0_5 a0_6 a0_7 a0_8))))))) = some r := h
  clear h
  replace H := Option.bind_eq_some_iff.mp H
  obtain ⟨t195, A20, H⟩ := H
  replace H : (if a0_0 < 1 then (portreeveref04_May.j0 k t195 true a0_0 a0_1 a0_2 a0_3 a0_4 a0_5 a0_6 a0_7 a0_8) else (if a0_0 > 6 then (portreeveref04_May.j0 k t195 true a0_0 a0_1 a0_2 a0_3 a0_4 a0_5 a0_6 a0_7 a0_8) else (if a0_1 < 0 then (portreeveref04_May.j0 k t195 true a0_0 a0_1 a0_2 a0_3 a0_4 a0_5 a0_6 a0_7 a0_8) else (if a0_1 > 1000000000 then (portreeveref04_May.j0 k t195 true a0_0 a0_1 a0_2 a0_3 a0_4 a0_5 a0_6 a0_7 a0_8) else (if a0_2 < 0 then (portreeveref04_May.j0 k t195 true a0_0 a0_1 a0_2 a0_3 a0_4 a0_5 a0_6 a0_7 a0_8) else (portreeveref04_May.j0 k t195 (decide (a0_2 > 7)) a0_0 a0_1 a0_2 a0_3 a0_4 a0_5 a0_6 a0_7 a0_8)))))) = some r := H
  have A2 := Aside0.mk A20
  clear A20
  have HC3 := Aside0.mk H
  clear H
  go_enter Try.func21, Try.ntmps21
  go_upto_region 2 with (first | ((with_reducible refine gate_dst (N := 1) rfl ?_); refine box_event ?hg (N := 1) ?hd (cs := #[.int .i64 a0_0, .int .i64 a0_1, .int .i64 a0_2, .int .u32 a0_3, .string a0_4, .int .u64 a0_5, .int .u64 a0_6, .int .i64 a0_7, .int .i64 a0_8]) (t := 41) ?hr ?_; (case hd => rfl); (case hg => rfl); (case hr => first | (go_simp; done) | (go_simp; rfl)); intro gb194 hg w4 hbox hb; have n0_ := Aside0.mk (below_step (by repeat (first | (with_reducible first | exact HB.out | apply pA | apply pN | apply pD) | exact HB.out)) hb); have n1_ := Aside0.mk (hbox); have n2_ := Aside0.mk ((by rw [hg]; exact (below_size (by repeat (first | (with_reducible first | exact HB.out | apply pA | apply pN | apply pD) | exact HB.out))) : w.heap.size ≤ gb194)); have n3_ := Aside0.mk ((by rw [hg]; exact (below_size (by repeat (first | (with_reducible first | exact HB.out | apply pA | apply pN | apply pD) | exact HB.out))) : w.heap.size ≤ gb194)); clear HB; have HB := n0_; have BK194 := n1_; have GW194 := n2_; have GE194 := n3_; clear n0_ n1_ n2_ n3_; clear hb hbox hg; have hcz5_0 : w4.cell? ⟨gb194, 0, none⟩ = some (.int .i64 a0_0) := (blk_cell BK194.out 0).trans rfl; have hcz5_1 : w4.cell? ⟨gb194, 1, none⟩ = some (.int .i64 a0_1) := (blk_cell BK194.out 1).trans rfl; have hcz5_2 : w4.cell? ⟨gb194, 2, none⟩ = some (.int .i64 a0_2) := (blk_cell BK194.out 2).trans rfl; have hcz5_3 : w4.cell? ⟨gb194, 3, none⟩ = some (.int .u32 a0_3) := (blk_cell BK194.out 3).trans rfl; have hcz5_4 : w4.cell? ⟨gb194, 4, none⟩ = some (.string a0_4) := (blk_cell BK194.out 4).trans rfl; have hcz5_5 : w4.cell? ⟨gb194, 5, none⟩ = some (.int .u64 a0_5) := (blk_cell BK194.out 5).trans rfl; have hcz5_6 : w4.cell? ⟨gb194, 6, none⟩ = some (.int .u64 a0_6) := (blk_cell BK194.out 6).trans rfl; have hcz5_7 : w4.cell? ⟨gb194, 7, none⟩ = some (.int .i64 a0_7) := (blk_cell BK194.out 7).trans rfl; have hcz5_8 : w4.cell? ⟨gb194, 8, none⟩ = some (.int .i64 a0_8) := (blk_cell BK194.out 8).trans rfl; have hfz5_0 := blk_frozen BK194.out 0; have hfz5_1 := blk_frozen BK194.out 1; have hfz5_2 := blk_frozen BK194.out 2; have hfz5_3 := blk_frozen BK194.out 3; have hfz5_4 := blk_frozen BK194.out 4; have hfz5_5 := blk_frozen BK194.out 5; have hfz5_6 := blk_frozen BK194.out 6; have hfz5_7 := blk_frozen BK194.out 7; have hfz5_8 := blk_frozen BK194.out 8) | ((with_reducible refine gate_callee (f := 29) rfl ?_); refine goesL_ (some 6) rfl rfl Try.func29 (by kernel_rfl) rfl #[.string a0_4] rfl (by (try simp only [List.map_toArray, List.map_cons, List.map_nil]); first | done | rfl | (simp only [List.length_drop, List.length_take]; rfl)) ?_; (with_reducible refine (portreeveref04_name.calls a0_4 t195 _ A2.out).mono ?_); rintro e w' ⟨rfl, ⟨nd, rfl⟩⟩; refine ⟨_, rfl, ?_⟩))
  (try simp only [Act.put, List.setIfInBounds_toArray, List.set_cons_zero, List.set_cons_succ])
  go_cut [34] (fun v34 wc => ∃ (kq : Nat) (x34_2 : Bool), v34 = .bool x34_2 ∧ Aside0 (portreeveref04_May.j0 kq t195 x34_2 a0_0 a0_1 a0_2 a0_3 a0_4 a0_5 a0_6 a0_7 a0_8 = some r) ∧ Aside0 (kq ≤ k) ∧ Aside0 (wc.heap[gb194]? = some (.cells #[.int .i64 a0_0, .int .i64 a0_1, .int .i64 a0_2, .int .u32 a0_3, .string a0_4, .int .u64 a0_5, .int .u64 a0_6, .int .i64 a0_7, .int .i64 a0_8] 41 (0, 0))) ∧ Aside0 (Below w.heap.size w wc))
  case first =>
    have H := HC3.out
    clear HC3
    by_cases c6 : a0_0 < 1
    · rw [if_pos c6] at H
      have c6b0 : decide (a0_0 < 1) = true := decide_eq_true c6
      clear c6
      (first | rw [c6b0] | (simp only [i64_w, i32_w]; rw [c6b0]) | skip)
      have H' := Aside0.mk H
      clear H
      have hcz7_0 : w4.cell? ⟨gb194, 0, none⟩ = some (.int .i64 a0_0) := (blk_cell BK194.out 0).trans rfl
      have hcz7_1 : w4.cell? ⟨gb194, 1, none⟩ = some (.int .i64 a0_1) := (blk_cell BK194.out 1).trans rfl
      have hcz7_2 : w4.cell? ⟨gb194, 2, none⟩ = some (.int .i64 a0_2) := (blk_cell BK194.out 2).trans rfl
      have hcz7_3 : w4.cell? ⟨gb194, 3, none⟩ = some (.int .u32 a0_3) := (blk_cell BK194.out 3).trans rfl
      have hcz7_4 : w4.cell? ⟨gb194, 4, none⟩ = some (.string a0_4) := (blk_cell BK194.out 4).trans rfl
      have hcz7_5 : w4.cell? ⟨gb194, 5, none⟩ = some (.int .u64 a0_5) := (blk_cell BK194.out 5).trans rfl
      have hcz7_6 : w4.cell? ⟨gb194, 6, none⟩ = some (.int .u64 a0_6) := (blk_cell BK194.out 6).trans rfl
      have hcz7_7 : w4.cell? ⟨gb194, 7, none⟩ = some (.int .i64 a0_7) := (blk_cell BK194.out 7).trans rfl
      have hcz7_8 : w4.cell? ⟨gb194, 8, none⟩ = some (.int .i64 a0_8) := (blk_cell BK194.out 8).trans rfl
      have hfz7_0 := blk_frozen BK194.out 0
      have hfz7_1 := blk_frozen BK194.out 1
      have hfz7_2 := blk_frozen BK194.out 2
      have hfz7_3 := blk_frozen BK194.out 3
      have hfz7_4 := blk_frozen BK194.out 4
      have hfz7_5 := blk_frozen BK194.out 5
      have hfz7_6 := blk_frozen BK194.out 6
      have hfz7_7 := blk_frozen BK194.out 7
      have hfz7_8 := blk_frozen BK194.out 8
      go_wp2
      go_meet
      case rel => exact ⟨_, (true), (by first | rfl | (simp; done) | (simp [*]; done)), H', ⟨by first | omega | exact Nat.le_refl _⟩, ⟨by (with_reducible repeat (first | refine qN ?_ _ | refine qD ?_ | refine qA ?_ _)); exact BK194.out⟩, ⟨by repeat (first | (with_reducible first | exact HB.out | apply pA | apply pN | apply pD | refine pS ?_ GE194.out) | exact HB.out)⟩⟩
    · rw [if_neg c6] at H
      have c6b0 : decide (a0_0 < 1) = false := decide_eq_false c6
      clear c6
      (first | rw [c6b0] | (simp only [i64_w, i32_w]; rw [c6b0]) | skip)
      by_cases c8 : a0_0 > 6
      · rw [if_pos c8] at H
        have c8b0 : decide (6 < a0_0) = true := decide_eq_true c8
        clear c8
        have H' := Aside0.mk H
        clear H
        have hcz9_0 : w4.cell? ⟨gb194, 0, none⟩ = some (.int .i64 a0_0) := (blk_cell BK194.out 0).trans rfl
        have hcz9_1 : w4.cell? ⟨gb194, 1, none⟩ = some (.int .i64 a0_1) := (blk_cell BK194.out 1).trans rfl
        have hcz9_2 : w4.cell? ⟨gb194, 2, none⟩ = some (.int .i64 a0_2) := (blk_cell BK194.out 2).trans rfl
        have hcz9_3 : w4.cell? ⟨gb194, 3, none⟩ = some (.int .u32 a0_3) := (blk_cell BK194.out 3).trans rfl
        have hcz9_4 : w4.cell? ⟨gb194, 4, none⟩ = some (.string a0_4) := (blk_cell BK194.out 4).trans rfl
        have hcz9_5 : w4.cell? ⟨gb194, 5, none⟩ = some (.int .u64 a0_5) := (blk_cell BK194.out 5).trans rfl
        have hcz9_6 : w4.cell? ⟨gb194, 6, none⟩ = some (.int .u64 a0_6) := (blk_cell BK194.out 6).trans rfl
        have hcz9_7 : w4.cell? ⟨gb194, 7, none⟩ = some (.int .i64 a0_7) := (blk_cell BK194.out 7).trans rfl
        have hcz9_8 : w4.cell? ⟨gb194, 8, none⟩ = some (.int .i64 a0_8) := (blk_cell BK194.out 8).trans rfl
        have hfz9_0 := blk_frozen BK194.out 0
        have hfz9_1 := blk_frozen BK194.out 1
        have hfz9_2 := blk_frozen BK194.out 2
        have hfz9_3 := blk_frozen BK194.out 3
        have hfz9_4 := blk_frozen BK194.out 4
        have hfz9_5 := blk_frozen BK194.out 5
        have hfz9_6 := blk_frozen BK194.out 6
        have hfz9_7 := blk_frozen BK194.out 7
        have hfz9_8 := blk_frozen BK194.out 8
        go_wp2
        go_meet
        case rel => exact ⟨_, (true), (by first | rfl | (simp; done) | (simp [*]; done)), H', ⟨by first | omega | exact Nat.le_refl _⟩, ⟨by (with_reducible repeat (first | refine qN ?_ _ | refine qD ?_ | refine qA ?_ _)); exact BK194.out⟩, ⟨by repeat (first | (with_reducible first | exact HB.out | apply pA | apply pN | apply pD | refine pS ?_ GE194.out) | exact HB.out)⟩⟩
      · rw [if_neg c8] at H
        have c8b0 : decide (6 < a0_0) = false := decide_eq_false c8
        clear c8
        by_cases c10 : a0_1 < 0
        · rw [if_pos c10] at H
          have c10b0 : decide (a0_1 < 0) = true := decide_eq_true c10
          clear c10
          have H' := Aside0.mk H
          clear H
          have hcz11_0 : w4.cell? ⟨gb194, 0, none⟩ = some (.int .i64 a0_0) := (blk_cell BK194.out 0).trans rfl
          have hcz11_1 : w4.cell? ⟨gb194, 1, none⟩ = some (.int .i64 a0_1) := (blk_cell BK194.out 1).trans rfl
          have hcz11_2 : w4.cell? ⟨gb194, 2, none⟩ = some (.int .i64 a0_2) := (blk_cell BK194.out 2).trans rfl
          have hcz11_3 : w4.cell? ⟨gb194, 3, none⟩ = some (.int .u32 a0_3) := (blk_cell BK194.out 3).trans rfl
          have hcz11_4 : w4.cell? ⟨gb194, 4, none⟩ = some (.string a0_4) := (blk_cell BK194.out 4).trans rfl
          have hcz11_5 : w4.cell? ⟨gb194, 5, none⟩ = some (.int .u64 a0_5) := (blk_cell BK194.out 5).trans rfl
          have hcz11_6 : w4.cell? ⟨gb194, 6, none⟩ = some (.int .u64 a0_6) := (blk_cell BK194.out 6).trans rfl
          have hcz11_7 : w4.cell? ⟨gb194, 7, none⟩ = some (.int .i64 a0_7) := (blk_cell BK194.out 7).trans rfl
          have hcz11_8 : w4.cell? ⟨gb194, 8, none⟩ = some (.int .i64 a0_8) := (blk_cell BK194.out 8).trans rfl
          have hfz11_0 := blk_frozen BK194.out 0
          have hfz11_1 := blk_frozen BK194.out 1
          have hfz11_2 := blk_frozen BK194.out 2
          have hfz11_3 := blk_frozen BK194.out 3
          have hfz11_4 := blk_frozen BK194.out 4
          have hfz11_5 := blk_frozen BK194.out 5
          have hfz11_6 := blk_frozen BK194.out 6
          have hfz11_7 := blk_frozen BK194.out 7
          have hfz11_8 := blk_frozen BK194.out 8
          go_wp2
          go_meet
          case rel => exact ⟨_, (true), (by first | rfl | (simp; done) | (simp [*]; done)), H', ⟨by first | omega | exact Nat.le_refl _⟩, ⟨by (with_reducible repeat (first | refine qN ?_ _ | refine qD ?_ | refine qA ?_ _)); exact BK194.out⟩, ⟨by repeat (first | (with_reducible first | exact HB.out | apply pA | apply pN | apply pD | refine pS ?_ GE194.out) | exact HB.out)⟩⟩
        · rw [if_neg c10] at H
          have c10b0 : decide (a0_1 < 0) = false := decide_eq_false c10
          clear c10
          by_cases c12 : a0_1 > 1000000000
          · rw [if_pos c12] at H
            have c12b0 : decide (1000000000 < a0_1) = true := decide_eq_true c12
            clear c12
            have H' := Aside0.mk H
            clear H
            have hcz13_0 : w4.cell? ⟨gb194, 0, none⟩ = some (.int .i64 a0_0) := (blk_cell BK194.out 0).trans rfl
            have hcz13_1 : w4.cell? ⟨gb194, 1, none⟩ = some (.int .i64 a0_1) := (blk_cell BK194.out 1).trans rfl
            have hcz13_2 : w4.cell? ⟨gb194, 2, none⟩ = some (.int .i64 a0_2) := (blk_cell BK194.out 2).trans rfl
            have hcz13_3 : w4.cell? ⟨gb194, 3, none⟩ = some (.int .u32 a0_3) := (blk_cell BK194.out 3).trans rfl
            have hcz13_4 : w4.cell? ⟨gb194, 4, none⟩ = some (.string a0_4) := (blk_cell BK194.out 4).trans rfl
            have hcz13_5 : w4.cell? ⟨gb194, 5, none⟩ = some (.int .u64 a0_5) := (blk_cell BK194.out 5).trans rfl
            have hcz13_6 : w4.cell? ⟨gb194, 6, none⟩ = some (.int .u64 a0_6) := (blk_cell BK194.out 6).trans rfl
            have hcz13_7 : w4.cell? ⟨gb194, 7, none⟩ = some (.int .i64 a0_7) := (blk_cell BK194.out 7).trans rfl
            have hcz13_8 : w4.cell? ⟨gb194, 8, none⟩ = some (.int .i64 a0_8) := (blk_cell BK194.out 8).trans rfl
            have hfz13_0 := blk_frozen BK194.out 0
            have hfz13_1 := blk_frozen BK194.out 1
            have hfz13_2 := blk_frozen BK194.out 2
            have hfz13_3 := blk_frozen BK194.out 3
            have hfz13_4 := blk_frozen BK194.out 4
            have hfz13_5 := blk_frozen BK194.out 5
            have hfz13_6 := blk_frozen BK194.out 6
            have hfz13_7 := blk_frozen BK194.out 7
            have hfz13_8 := blk_frozen BK194.out 8
            go_wp2
            go_meet
            case rel => exact ⟨_, (true), (by first | rfl | (simp; done) | (simp [*]; done)), H', ⟨by first | omega | exact Nat.le_refl _⟩, ⟨by (with_reducible repeat (first | refine qN ?_ _ | refine qD ?_ | refine qA ?_ _)); exact BK194.out⟩, ⟨by repeat (first | (with_reducible first | exact HB.out | apply pA | apply pN | apply pD | refine pS ?_ GE194.out) | exact HB.out)⟩⟩
          · rw [if_neg c12] at H
            have c12b0 : decide (1000000000 < a0_1) = false := decide_eq_false c12
            clear c12
            by_cases c14 : a0_2 < 0
            · rw [if_pos c14] at H
              have c14b0 : decide (a0_2 < 0) = true := decide_eq_true c14
              clear c14
              have H' := Aside0.mk H
              clear H
              have hcz15_0 : w4.cell? ⟨gb194, 0, none⟩ = some (.int .i64 a0_0) := (blk_cell BK194.out 0).trans rfl
              have hcz15_1 : w4.cell? ⟨gb194, 1, none⟩ = some (.int .i64 a0_1) := (blk_cell BK194.out 1).trans rfl
              have hcz15_2 : w4.cell? ⟨gb194, 2, none⟩ = some (.int .i64 a0_2) := (blk_cell BK194.out 2).trans rfl
              have hcz15_3 : w4.cell? ⟨gb194, 3, none⟩ = some (.int .u32 a0_3) := (blk_cell BK194.out 3).trans rfl
              have hcz15_4 : w4.cell? ⟨gb194, 4, none⟩ = some (.string a0_4) := (blk_cell BK194.out 4).trans rfl
              have hcz15_5 : w4.cell? ⟨gb194, 5, none⟩ = some (.int .u64 a0_5) := (blk_cell BK194.out 5).trans rfl
              have hcz15_6 : w4.cell? ⟨gb194, 6, none⟩ = some (.int .u64 a0_6) := (blk_cell BK194.out 6).trans rfl
              have hcz15_7 : w4.cell? ⟨gb194, 7, none⟩ = some (.int .i64 a0_7) := (blk_cell BK194.out 7).trans rfl
              have hcz15_8 : w4.cell? ⟨gb194, 8, none⟩ = some (.int .i64 a0_8) := (blk_cell BK194.out 8).trans rfl
              have hfz15_0 := blk_frozen BK194.out 0
              have hfz15_1 := blk_frozen BK194.out 1
              have hfz15_2 := blk_frozen BK194.out 2
              have hfz15_3 := blk_frozen BK194.out 3
              have hfz15_4 := blk_frozen BK194.out 4
              have hfz15_5 := blk_frozen BK194.out 5
              have hfz15_6 := blk_frozen BK194.out 6
              have hfz15_7 := blk_frozen BK194.out 7
              have hfz15_8 := blk_frozen BK194.out 8
              go_wp2
              go_meet
              case rel => exact ⟨_, (true), (by first | rfl | (simp; done) | (simp [*]; done)), H', ⟨by first | omega | exact Nat.le_refl _⟩, ⟨by (with_reducible repeat (first | refine qN ?_ _ | refine qD ?_ | refine qA ?_ _)); exact BK194.out⟩, ⟨by repeat (first | (with_reducible first | exact HB.out | apply pA | apply pN | apply pD | refine pS ?_ GE194.out) | exact HB.out)⟩⟩
            · rw [if_neg c14] at H
              have c14b0 : decide (a0_2 < 0) = false := decide_eq_false c14
              clear c14
              have H' := Aside0.mk H
              clear H
              have hcz16_0 : w4.cell? ⟨gb194, 0, none⟩ = some (.int .i64 a0_0) := (blk_cell BK194.out 0).trans rfl
              have hcz16_1 : w4.cell? ⟨gb194, 1, none⟩ = some (.int .i64 a0_1) := (blk_cell BK194.out 1).trans rfl
              have hcz16_2 : w4.cell? ⟨gb194, 2, none⟩ = some (.int .i64 a0_2) := (blk_cell BK194.out 2).trans rfl
              have hcz16_3 : w4.cell? ⟨gb194, 3, none⟩ = some (.int .u32 a0_3) := (blk_cell BK194.out 3).trans rfl
              have hcz16_4 : w4.cell? ⟨gb194, 4, none⟩ = some (.string a0_4) := (blk_cell BK194.out 4).trans rfl
              have hcz16_5 : w4.cell? ⟨gb194, 5, none⟩ = some (.int .u64 a0_5) := (blk_cell BK194.out 5).trans rfl
              have hcz16_6 : w4.cell? ⟨gb194, 6, none⟩ = some (.int .u64 a0_6) := (blk_cell BK194.out 6).trans rfl
              have hcz16_7 : w4.cell? ⟨gb194, 7, none⟩ = some (.int .i64 a0_7) := (blk_cell BK194.out 7).trans rfl
              have hcz16_8 : w4.cell? ⟨gb194, 8, none⟩ = some (.int .i64 a0_8) := (blk_cell BK194.out 8).trans rfl
              have hfz16_0 := blk_frozen BK194.out 0
              have hfz16_1 := blk_frozen BK194.out 1
              have hfz16_2 := blk_frozen BK194.out 2
              have hfz16_3 := blk_frozen BK194.out 3
              have hfz16_4 := blk_frozen BK194.out 4
              have hfz16_5 := blk_frozen BK194.out 5
              have hfz16_6 := blk_frozen BK194.out 6
              have hfz16_7 := blk_frozen BK194.out 7
              have hfz16_8 := blk_frozen BK194.out 8
              go_wp2
              go_meet
              case rel => exact ⟨_, (decide (a0_2 > 7)), (by first | rfl | (simp; done) | (simp [*]; done)), H', ⟨by first | omega | exact Nat.le_refl _⟩, ⟨by (with_reducible repeat (first | refine qN ?_ _ | refine qD ?_ | refine qA ?_ _)); exact BK194.out⟩, ⟨by repeat (first | (with_reducible first | exact HB.out | apply pA | apply pN | apply pD | refine pS ?_ GE194.out) | exact HB.out)⟩⟩
  case rest =>
    clear HC3
    try clear c1
    try clear c2
    try clear p2
    try clear c6
    try clear c6b0
    try clear c8
    try clear c8b0
    try clear c10
    try clear c10b0
    try clear c12
    try clear c12b0
    try clear c14
    try clear c14b0
    try clear hcz11_0
    try clear hcz11_1
    try clear hcz11_2
    try clear hcz11_3
    try clear hcz11_4
    try clear hcz11_5
    try clear hcz11_6
    try clear hcz11_7
    try clear hcz11_8
    try clear hcz13_0
    try clear hcz13_1
    try clear hcz13_2
    try clear hcz13_3
    try clear hcz13_4
    try clear hcz13_5
    try clear hcz13_6
    try clear hcz13_7
    try clear hcz13_8
    try clear hcz15_0
    try clear hcz15_1
    try clear hcz15_2
    try clear hcz15_3
    try clear hcz15_4
    try clear hcz15_5
    try clear hcz15_6
    try clear hcz15_7
    try clear hcz15_8
    try clear hcz16_0
    try clear hcz16_1
    try clear hcz16_2
    try clear hcz16_3
    try clear hcz16_4
    try clear hcz16_5
    try clear hcz16_6
    try clear hcz16_7
    try clear hcz16_8
    try clear hcz5_0
    try clear hcz5_1
    try clear hcz5_2
    try clear hcz5_3
    try clear hcz5_4
    try clear hcz5_5
    try clear hcz5_6
    try clear hcz5_7
    try clear hcz5_8
    try clear hcz7_0
    try clear hcz7_1
    try clear hcz7_2
    try clear hcz7_3
    try clear hcz7_4
    try clear hcz7_5
    try clear hcz7_6
    try clear hcz7_7
    try clear hcz7_8
    try clear hcz9_0
    try clear hcz9_1
    try clear hcz9_2
    try clear hcz9_3
    try clear hcz9_4
    try clear hcz9_5
    try clear hcz9_6
    try clear hcz9_7
    try clear hcz9_8
    try clear hfz11_0
    try clear hfz11_1
    try clear hfz11_2
    try clear hfz11_3
    try clear hfz11_4
    try clear hfz11_5
    try clear hfz11_6
    try clear hfz11_7
    try clear hfz11_8
    try clear hfz13_0
    try clear hfz13_1
    try clear hfz13_2
    try clear hfz13_3
    try clear hfz13_4
    try clear hfz13_5
    try clear hfz13_6
    try clear hfz13_7
    try clear hfz13_8
    try clear hfz15_0
    try clear hfz15_1
    try clear hfz15_2
    try clear hfz15_3
    try clear hfz15_4
    try clear hfz15_5
    try clear hfz15_6
    try clear hfz15_7
    try clear hfz15_8
    try clear hfz16_0
    try clear hfz16_1
    try clear hfz16_2
    try clear hfz16_3
    try clear hfz16_4
    try clear hfz16_5
    try clear hfz16_6
    try clear hfz16_7
    try clear hfz16_8
    try clear hfz5_0
    try clear hfz5_1
    try clear hfz5_2
    try clear hfz5_3
    try clear hfz5_4
    try clear hfz5_5
    try clear hfz5_6
    try clear hfz5_7
    try clear hfz5_8
    try clear hfz7_0
    try clear hfz7_1
    try clear hfz7_2
    try clear hfz7_3
    try clear hfz7_4
    try clear hfz7_5
    try clear hfz7_6
    try clear hfz7_7
    try clear hfz7_8
    try clear hfz9_0
    try clear hfz9_1
    try clear hfz9_2
    try clear hfz9_3
    try clear hfz9_4
    try clear hfz9_5
    try clear hfz9_6
    try clear hfz9_7
    try clear hfz9_8
    obtain ⟨kq, x34_2, rfl, HA, HJ2, BK194, HB⟩ := hcut
    cases kq with
    | zero => exact absurd HA.out (by simp [portreeveref04_May.j0])
    | succ kj2 =>
      have H := HA.out
      clear HA
      simp only [portreeveref04_May.j0] at H
      by_cases c17 : x34_2 = true
      · subst c17
        have H1 : (some false) = some r := by rw [if_pos rfl] at H; exact H
        clear H
        have H := H1
        clear H1
        obtain rfl := Option.some.inj H
        go_wp2
        go_ret
        exact ⟨by first | rfl | (simp [errW_none, errW_some] <;> rfl) | (simp [*, errW_none, errW_some] <;> rfl), by repeat (first | (with_reducible first | exact HB.out | apply pA | apply pN | apply pD | refine pS ?_ GE194.out) | exact HB.out)⟩
      · replace c17 := Bool.eq_false_iff.mpr c17
        subst c17
        have H1 : (if t195 = true then (if a0_8 ≥ 0 then (if a0_8 ≤ 1000000000 then (if a0_7 ≥ 0 then (some (decide (a0_7 ≤ 255))) else (some false)) else (some false)) else (some false)) else (some false)) = some r := by rw [if_neg (show ¬ (false = true) by decide)] at H; exact H
        clear H
        have H := H1
        clear H1
        by_cases c18 : t195 = true
        · subst c18
          have H1 : (if a0_8 ≥ 0 then (if a0_8 ≤ 1000000000 then (if a0_7 ≥ 0 then (some (decide (a0_7 ≤ 255))) else (some false)) else (some false)) else (some false)) = some r := by rw [if_pos rfl] at H; exact H
          clear H
          have H := H1
          clear H1
          by_cases c19 : a0_8 ≥ 0
          · rw [if_pos c19] at H
            have c19b0 : decide (0 ≤ a0_8) = true := decide_eq_true c19
            clear c19
            by_cases c20 : a0_8 ≤ 1000000000
            · rw [if_pos c20] at H
              have c20b0 : decide (a0_8 ≤ 1000000000) = true := decide_eq_true c20
              clear c20
              by_cases c21 : a0_7 ≥ 0
              · rw [if_pos c21] at H
                have c21b0 : decide (0 ≤ a0_7) = true := decide_eq_true c21
                clear c21
                obtain rfl := Option.some.inj H
                have hcz22_0 : wc.cell? ⟨gb194, 0, none⟩ = some (.int .i64 a0_0) := (blk_cell BK194.out 0).trans rfl
                have hcz22_1 : wc.cell? ⟨gb194, 1, none⟩ = some (.int .i64 a0_1) := (blk_cell BK194.out 1).trans rfl
                have hcz22_2 : wc.cell? ⟨gb194, 2, none⟩ = some (.int .i64 a0_2) := (blk_cell BK194.out 2).trans rfl
                have hcz22_3 : wc.cell? ⟨gb194, 3, none⟩ = some (.int .u32 a0_3) := (blk_cell BK194.out 3).trans rfl
                have hcz22_4 : wc.cell? ⟨gb194, 4, none⟩ = some (.string a0_4) := (blk_cell BK194.out 4).trans rfl
                have hcz22_5 : wc.cell? ⟨gb194, 5, none⟩ = some (.int .u64 a0_5) := (blk_cell BK194.out 5).trans rfl
                have hcz22_6 : wc.cell? ⟨gb194, 6, none⟩ = some (.int .u64 a0_6) := (blk_cell BK194.out 6).trans rfl
                have hcz22_7 : wc.cell? ⟨gb194, 7, none⟩ = some (.int .i64 a0_7) := (blk_cell BK194.out 7).trans rfl
                have hcz22_8 : wc.cell? ⟨gb194, 8, none⟩ = some (.int .i64 a0_8) := (blk_cell BK194.out 8).trans rfl
                have hfz22_0 := blk_frozen BK194.out 0
                have hfz22_1 := blk_frozen BK194.out 1
                have hfz22_2 := blk_frozen BK194.out 2
                have hfz22_3 := blk_frozen BK194.out 3
                have hfz22_4 := blk_frozen BK194.out 4
                have hfz22_5 := blk_frozen BK194.out 5
                have hfz22_6 := blk_frozen BK194.out 6
                have hfz22_7 := blk_frozen BK194.out 7
                have hfz22_8 := blk_frozen BK194.out 8
                go_wp2
                go_ret
                exact ⟨by first | rfl | (simp [errW_none, errW_some] <;> rfl) | (simp [*, errW_none, errW_some] <;> rfl), by repeat (first | (with_reducible first | exact HB.out | apply pA | apply pN | apply pD | refine pS ?_ GE194.out) | exact HB.out)⟩
              · rw [if_neg c21] at H
                have c21b0 : decide (0 ≤ a0_7) = false := decide_eq_false c21
                clear c21
                obtain rfl := Option.some.inj H
                have hcz23_0 : wc.cell? ⟨gb194, 0, none⟩ = some (.int .i64 a0_0) := (blk_cell BK194.out 0).trans rfl
                have hcz23_1 : wc.cell? ⟨gb194, 1, none⟩ = some (.int .i64 a0_1) := (blk_cell BK194.out 1).trans rfl
                have hcz23_2 : wc.cell? ⟨gb194, 2, none⟩ = some (.int .i64 a0_2) := (blk_cell BK194.out 2).trans rfl
                have hcz23_3 : wc.cell? ⟨gb194, 3, none⟩ = some (.int .u32 a0_3) := (blk_cell BK194.out 3).trans rfl
                have hcz23_4 : wc.cell? ⟨gb194, 4, none⟩ = some (.string a0_4) := (blk_cell BK194.out 4).trans rfl
                have hcz23_5 : wc.cell? ⟨gb194, 5, none⟩ = some (.int .u64 a0_5) := (blk_cell BK194.out 5).trans rfl
                have hcz23_6 : wc.cell? ⟨gb194, 6, none⟩ = some (.int .u64 a0_6) := (blk_cell BK194.out 6).trans rfl
                have hcz23_7 : wc.cell? ⟨gb194, 7, none⟩ = some (.int .i64 a0_7) := (blk_cell BK194.out 7).trans rfl
                have hcz23_8 : wc.cell? ⟨gb194, 8, none⟩ = some (.int .i64 a0_8) := (blk_cell BK194.out 8).trans rfl
                have hfz23_0 := blk_frozen BK194.out 0
                have hfz23_1 := blk_frozen BK194.out 1
                have hfz23_2 := blk_frozen BK194.out 2
                have hfz23_3 := blk_frozen BK194.out 3
                have hfz23_4 := blk_frozen BK194.out 4
                have hfz23_5 := blk_frozen BK194.out 5
                have hfz23_6 := blk_frozen BK194.out 6
                have hfz23_7 := blk_frozen BK194.out 7
                have hfz23_8 := blk_frozen BK194.out 8
                go_wp2
                go_ret
                exact ⟨by first | rfl | (simp [errW_none, errW_some] <;> rfl) | (simp [*, errW_none, errW_some] <;> rfl), by repeat (first | (with_reducible first | exact HB.out | apply pA | apply pN | apply pD | refine pS ?_ GE194.out) | exact HB.out)⟩
            · rw [if_neg c20] at H
              have c20b0 : decide (a0_8 ≤ 1000000000) = false := decide_eq_false c20
              clear c20
              obtain rfl := Option.some.inj H
              have hcz24_0 : wc.cell? ⟨gb194, 0, none⟩ = some (.int .i64 a0_0) := (blk_cell BK194.out 0).trans rfl
              have hcz24_1 : wc.cell? ⟨gb194, 1, none⟩ = some (.int .i64 a0_1) := (blk_cell BK194.out 1).trans rfl
              have hcz24_2 : wc.cell? ⟨gb194, 2, none⟩ = some (.int .i64 a0_2) := (blk_cell BK194.out 2).trans rfl
              have hcz24_3 : wc.cell? ⟨gb194, 3, none⟩ = some (.int .u32 a0_3) := (blk_cell BK194.out 3).trans rfl
              have hcz24_4 : wc.cell? ⟨gb194, 4, none⟩ = some (.string a0_4) := (blk_cell BK194.out 4).trans rfl
              have hcz24_5 : wc.cell? ⟨gb194, 5, none⟩ = some (.int .u64 a0_5) := (blk_cell BK194.out 5).trans rfl
              have hcz24_6 : wc.cell? ⟨gb194, 6, none⟩ = some (.int .u64 a0_6) := (blk_cell BK194.out 6).trans rfl
              have hcz24_7 : wc.cell? ⟨gb194, 7, none⟩ = some (.int .i64 a0_7) := (blk_cell BK194.out 7).trans rfl
              have hcz24_8 : wc.cell? ⟨gb194, 8, none⟩ = some (.int .i64 a0_8) := (blk_cell BK194.out 8).trans rfl
              have hfz24_0 := blk_frozen BK194.out 0
              have hfz24_1 := blk_frozen BK194.out 1
              have hfz24_2 := blk_frozen BK194.out 2
              have hfz24_3 := blk_frozen BK194.out 3
              have hfz24_4 := blk_frozen BK194.out 4
              have hfz24_5 := blk_frozen BK194.out 5
              have hfz24_6 := blk_frozen BK194.out 6
              have hfz24_7 := blk_frozen BK194.out 7
              have hfz24_8 := blk_frozen BK194.out 8
              go_wp2
              go_ret
              exact ⟨by first | rfl | (simp [errW_none, errW_some] <;> rfl) | (simp [*, errW_none, errW_some] <;> rfl), by repeat (first | (with_reducible first | exact HB.out | apply pA | apply pN | apply pD | refine pS ?_ GE194.out) | exact HB.out)⟩
          · rw [if_neg c19] at H
            have c19b0 : decide (0 ≤ a0_8) = false := decide_eq_false c19
            clear c19
            obtain rfl := Option.some.inj H
            have hcz25_0 : wc.cell? ⟨gb194, 0, none⟩ = some (.int .i64 a0_0) := (blk_cell BK194.out 0).trans rfl
            have hcz25_1 : wc.cell? ⟨gb194, 1, none⟩ = some (.int .i64 a0_1) := (blk_cell BK194.out 1).trans rfl
            have hcz25_2 : wc.cell? ⟨gb194, 2, none⟩ = some (.int .i64 a0_2) := (blk_cell BK194.out 2).trans rfl
            have hcz25_3 : wc.cell? ⟨gb194, 3, none⟩ = some (.int .u32 a0_3) := (blk_cell BK194.out 3).trans rfl
            have hcz25_4 : wc.cell? ⟨gb194, 4, none⟩ = some (.string a0_4) := (blk_cell BK194.out 4).trans rfl
            have hcz25_5 : wc.cell? ⟨gb194, 5, none⟩ = some (.int .u64 a0_5) := (blk_cell BK194.out 5).trans rfl
            have hcz25_6 : wc.cell? ⟨gb194, 6, none⟩ = some (.int .u64 a0_6) := (blk_cell BK194.out 6).trans rfl
            have hcz25_7 : wc.cell? ⟨gb194, 7, none⟩ = some (.int .i64 a0_7) := (blk_cell BK194.out 7).trans rfl
            have hcz25_8 : wc.cell? ⟨gb194, 8, none⟩ = some (.int .i64 a0_8) := (blk_cell BK194.out 8).trans rfl
            have hfz25_0 := blk_frozen BK194.out 0
            have hfz25_1 := blk_frozen BK194.out 1
            have hfz25_2 := blk_frozen BK194.out 2
            have hfz25_3 := blk_frozen BK194.out 3
            have hfz25_4 := blk_frozen BK194.out 4
            have hfz25_5 := blk_frozen BK194.out 5
            have hfz25_6 := blk_frozen BK194.out 6
            have hfz25_7 := blk_frozen BK194.out 7
            have hfz25_8 := blk_frozen BK194.out 8
            go_wp2
            go_ret
            exact ⟨by first | rfl | (simp [errW_none, errW_some] <;> rfl) | (simp [*, errW_none, errW_some] <;> rfl), by repeat (first | (with_reducible first | exact HB.out | apply pA | apply pN | apply pD | refine pS ?_ GE194.out) | exact HB.out)⟩
        · replace c18 := Bool.eq_false_iff.mpr c18
          subst c18
          have H1 : (some false) = some r := by rw [if_neg (show ¬ (false = true) by decide)] at H; exact H
          clear H
          have H := H1
          clear H1
          obtain rfl := Option.some.inj H
          go_wp2
          go_ret
          exact ⟨by first | rfl | (simp [errW_none, errW_some] <;> rfl) | (simp [*, errW_none, errW_some] <;> rfl), by repeat (first | (with_reducible first | exact HB.out | apply pA | apply pN | apply pD | refine pS ?_ GE194.out) | exact HB.out)⟩

end Go.Proofs.Ytocjadhpaecpaaa.Q

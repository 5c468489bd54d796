-- written by this session's own program (wip/tools/myprint.py), over the kit's print
import Derived.Test.YtocjadhpaecpaaaQx0
import Derived.Test.YtocjadhpaecpaaaQx6
import Derived.Test.YtocjadhpaecpaaaQx7
namespace Go.Proofs.Ytocjadhpaecpaaa.Q
open Go.RowKit Go.Proofs.YtocjadhpaecpaaaW.PrintWords Go.Proofs.YtocjadhpaecpaaaW.PrintLast Go.Proofs.YtocjadhpaecpaaaW.PrintMore
open Go.Proofs.YtocjadhpaecpaaaV
attribute [local go_sem] max2_int min2_int max_two min_two max_three min_three max_four min_four   -- for this text's walks alone
set_option linter.unusedVariables false
set_option linter.unusedSimpArgs false

/-! ### gate_Verdict: function 11 -/
mutual
def gate_Verdict.j0 : Nat → ByteArray → Bool → Int → Int → Int → Bool → Option (Bool × (List (S41)))
  | 0, _, _, _, _, _, _ => none
  | k + 1, x1, x3, x4, x12, x13, x20 => if x20 = true then (some (false, ([] : List (S41)))) else (if x3 = true then (gate_Verdict.j1 k x1 x3 x4 x13 (x12 == 0)) else (gate_Verdict.j1 k x1 x3 x4 x13 false))
def gate_Verdict.j1 : Nat → ByteArray → Bool → Int → Int → Bool → Option (Bool × (List (S41)))
  | 0, _, _, _, _, _ => none
  | k + 1, x1, x3, x4, x13, x29 => if x29 = true then (some (true, ([] : List (S41)))) else (if x3 = true then ((gate_may.f k (([(⟨5, 0, 0, 0, x1, 0, 0, 0, 0⟩ : S41)] : List (S41)))).bind fun t127 => (some (true, t127))) else ((gate_may.f k (([(⟨4, 0, 0, 0, x1, 0, 0, 0, mx x4 x13⟩ : S41)] : List (S41)))).bind fun t133 => (some (false, t133))))
end
def gate_Verdict.f (k : Nat) (a0_0 : Int) (l0_1 : List (S76)) (l0_2 : List (S72)) (l0_3 : List (S64)) (a1 : ByteArray) (a2 : Bool) (a3 : Bool) (a4 : Int) : Option (Bool × (List (S41))) := (gate_Failed.f a0_0 l0_1 l0_2 l0_3 a1).bind fun bt121 => (if a2 = true then ((gate_Locked.f a0_0 l0_1 l0_2 l0_3 a1 a4).bind fun t123 => (gate_Verdict.j0 k a1 a3 a4 bt121.1 bt121.2 t123)) else (gate_Verdict.j0 k a1 a3 a4 bt121.1 bt121.2 true))
theorem gate_Verdict.mono_l : ∀ k, (∀ y0 y1 y2 y3 y4 y5, LeO (gate_Verdict.j0 k y0 y1 y2 y3 y4 y5) (gate_Verdict.j0 (k + 1) y0 y1 y2 y3 y4 y5)) ∧ (∀ y0 y1 y2 y3 y4, LeO (gate_Verdict.j1 k y0 y1 y2 y3 y4) (gate_Verdict.j1 (k + 1) y0 y1 y2 y3 y4))
  | 0 => ⟨fun _ _ _ _ _ _ r h => by simp [gate_Verdict.j0] at h, fun _ _ _ _ _ r h => by simp [gate_Verdict.j1] at h⟩
  | k + 1 => by
    obtain ⟨ih0, ih1⟩ := gate_Verdict.mono_l k
    refine ⟨?_, ?_⟩
    · intro y0 y1 y2 y3 y4 y5
      unfold gate_Verdict.j0
      repeat' first
      | (with_reducible exact ih0 _ _ _ _ _ _)
      | (with_reducible exact ih1 _ _ _ _ _)
      | (with_reducible exact gate_may.mono _ _)
      | (with_reducible exact LeO.refl _)
      | (with_reducible exact LeO.none _)
      | (with_reducible refine LeO.ite ?_ ?_)
      | (with_reducible refine LeO.bind ?_ (fun _ => ?_))
      | exact ih0 _ _ _ _ _ _
      | exact ih1 _ _ _ _ _
      | exact gate_may.mono _ _
      | exact LeO.none _
      | refine LeO.ite ?_ ?_
      | refine LeO.bind ?_ (fun _ => ?_)
    · intro y0 y1 y2 y3 y4
      unfold gate_Verdict.j1
      repeat' first
      | (with_reducible exact ih0 _ _ _ _ _ _)
      | (with_reducible exact ih1 _ _ _ _ _)
      | (with_reducible exact gate_may.mono _ _)
      | (with_reducible exact LeO.refl _)
      | (with_reducible exact LeO.none _)
      | (with_reducible refine LeO.ite ?_ ?_)
      | (with_reducible refine LeO.bind ?_ (fun _ => ?_))
      | exact ih0 _ _ _ _ _ _
      | exact ih1 _ _ _ _ _
      | exact gate_may.mono _ _
      | exact LeO.none _
      | refine LeO.ite ?_ ?_
      | refine LeO.bind ?_ (fun _ => ?_)
theorem gate_Verdict.mono : ∀ a0 a1 a2 a3 a4 a5 a6 a7 k, LeO (gate_Verdict.f k a0 a1 a2 a3 a4 a5 a6 a7) (gate_Verdict.f (k + 1) a0 a1 a2 a3 a4 a5 a6 a7) := by
  intro a0 a1 a2 a3 a4 a5 a6 a7 k
  obtain ⟨ih0, ih1⟩ := gate_Verdict.mono_l k
  unfold gate_Verdict.f
  repeat' first
      | (with_reducible exact ih0 _ _ _ _ _ _)
      | (with_reducible exact ih1 _ _ _ _ _)
      | (with_reducible exact gate_may.mono _ _)
      | (with_reducible exact LeO.refl _)
      | (with_reducible exact LeO.none _)
      | (with_reducible refine LeO.ite ?_ ?_)
      | (with_reducible refine LeO.bind ?_ (fun _ => ?_))
      | exact ih0 _ _ _ _ _ _
      | exact ih1 _ _ _ _ _
      | exact gate_may.mono _ _
      | exact LeO.none _
      | refine LeO.ite ?_ ?_
      | refine LeO.bind ?_ (fun _ => ?_)
set_option maxHeartbeats 8000000 in
set_option maxRecDepth 100000 in
theorem gate_Verdict.calls (k : Nat) (a0_0 : Int) (A0_1 : Option Addr) (c0_1 : Nat) (l0_1 : List (S76)) (A0_2 : Option Addr) (c0_2 : Nat) (l0_2 : List (S72)) (A0_3 : Option Addr) (c0_3 : Nat) (l0_3 : List (S64)) (a1 : ByteArray) (a2 : Bool) (a3 : Bool) (a4 : Int) (r1 : Bool) (r2 : List (S41)) (w : World) (hr0_1 : Kd.C k76 w A0_1 l0_1.length l0_1) (hc0_1 : l0_1.length ≤ c0_1) (hr0_2 : Kd.C k72 w A0_2 l0_2.length l0_2) (hc0_2 : l0_2.length ≤ c0_2) (hr0_3 : Kd.C k64 w A0_3 l0_3.length l0_3) (hc0_3 : l0_3.length ≤ c0_3) (h : gate_Verdict.f k a0_0 l0_1 l0_2 l0_3 a1 a2 a3 a4 = some (r1, r2)) :
    Calls Try.prog 11 #[.agg #[.int .i64 a0_0, .slice A0_1 l0_1.length c0_1, .slice A0_2 l0_2.length c0_2, .slice A0_3 l0_3.length c0_3], .string a1, .bool a2, .bool a3, .int .i64 a4] w fun e w' => ∃ v1_ : Value, e = .returned (.tuple #[.bool r1, v1_]) ∧ Kd.V k41 41 w' w.heap.size (fun k_ => (w.heap.size ≤ k_)) v1_ r2 ∧ Below w.heap.size w w' := by
  have hu26 := Try.underlying26
  have hu41 := Try.underlying41
  have HR0_1 := Aside0.mk hr0_1
  have HC0_1 := Aside0.mk hc0_1
  clear hr0_1 hc0_1
  have HR0_2 := Aside0.mk hr0_2
  have HC0_2 := Aside0.mk hc0_2
  clear hr0_2 hc0_2
  have HR0_3 := Aside0.mk hr0_3
  have HC0_3 := Aside0.mk hc0_3
  clear hr0_3 hc0_3
  have HB := Aside0.mk (Below.refl w.heap.size w)
  have H : ((gate_Failed.f a0_0 l0_1 l0_2 l0_3 a1).bind fun bt121 => (if a2 = true then ((gate_Locked.f a0_0 l0_1 l0_2 l0_3 a1 a4).bind fun t123 => (gate_Verdict.j0 k a1 a3 a4 bt121.1 bt121.2 t123)) else (gate_Verdict.j0 k a1 a3 a4 bt121.1 bt121.2 true))) = some (r1, r2) := h
  clear h
  replace H := Option.bind_eq_some_iff.mp H
  obtain ⟨⟨t121, t122⟩, A60, H⟩ := H
  replace H : (if a2 = true then ((gate_Locked.f a0_0 l0_1 l0_2 l0_3 a1 a4).bind fun t123 => (gate_Verdict.j0 k a1 a3 a4 t121 t122 t123)) else (gate_Verdict.j0 k a1 a3 a4 t121 t122 true)) = some (r1, r2) := H
  have A6 := Aside0.mk A60
  clear A60
  have HC7 := Aside0.mk H
  clear H
  go_enter Try.func11, Try.ntmps11
  go_upto_region 2 with (first | ((with_reducible refine gate_dst (N := 5) rfl ?_); refine box_event ?hg (N := 5) ?hd (cs := #[.int .i64 a0_0, .slice A0_1 l0_1.length c0_1, .slice A0_2 l0_2.length c0_2, .slice A0_3 l0_3.length c0_3]) (t := 26) ?hr ?_; (case hd => rfl); (case hg => rfl); (case hr => first | (go_simp; done) | (go_simp; rfl)); intro gb120 hg w8 hbox hb; have n0_ := Aside0.mk (below_step (by repeat (first | (with_reducible first | exact HB.out | apply pA | apply pN | apply pD) | exact HB.out)) hb); have n1_ := Aside0.mk (hbox); have n2_ := Aside0.mk ((by rw [hg]; exact (below_size (by repeat (first | (with_reducible first | exact HB.out | apply pA | apply pN | apply pD) | exact HB.out))) : w.heap.size ≤ gb120)); have n3_ := Aside0.mk ((by rw [hg]; exact (below_size (by repeat (first | (with_reducible first | exact HB.out | apply pA | apply pN | apply pD) | exact HB.out))) : w.heap.size ≤ gb120)); clear HB; have HB := n0_; have BK120 := n1_; have GW120 := n2_; have GE120 := n3_; clear n0_ n1_ n2_ n3_; clear hb hbox hg; have hcz9_0 : w8.cell? ⟨gb120, 0, none⟩ = some (.int .i64 a0_0) := (blk_cell BK120.out 0).trans rfl; have hcz9_1 : w8.cell? ⟨gb120, 1, none⟩ = some (.slice A0_1 l0_1.length c0_1) := (blk_cell BK120.out 1).trans rfl; have hcz9_2 : w8.cell? ⟨gb120, 2, none⟩ = some (.slice A0_2 l0_2.length c0_2) := (blk_cell BK120.out 2).trans rfl; have hcz9_3 : w8.cell? ⟨gb120, 3, none⟩ = some (.slice A0_3 l0_3.length c0_3) := (blk_cell BK120.out 3).trans rfl; have hfz9_0 := blk_frozen BK120.out 0; have hfz9_1 := blk_frozen BK120.out 1; have hfz9_2 := blk_frozen BK120.out 2; have hfz9_3 := blk_frozen BK120.out 3) | ((with_reducible refine gate_callee (f := 12) rfl ?_); refine goesL_ (some 17) rfl rfl Try.func12 (by kernel_rfl) rfl #[.agg #[.int .i64 a0_0, .slice A0_1 l0_1.length c0_1, .slice A0_2 l0_2.length c0_2, .slice A0_3 l0_3.length c0_3], .string a1] rfl (by (try simp only [List.map_toArray, List.map_cons, List.map_nil]); first | done | rfl | (simp only [List.length_drop, List.length_take]; rfl)) ?_; (with_reducible refine (gate_Failed.calls a0_0 _ _ l0_1 _ _ l0_2 _ _ l0_3 a1 t121 t122 _ ?side1 ?side2 ?side3 ?side4 ?side5 ?side6 A6.out).mono ?_); (case side1 => repeat (first | exact (Kd.C_below HR0_1.out HB.out) | (with_reducible refine Kd.C_alloc ?_ _) | (with_reducible refine Kd.C_drewN ?_ _) | (with_reducible refine Kd.C_drew ?_))); (case side2 => exact HC0_1.out); (case side3 => repeat (first | exact (Kd.C_below HR0_2.out HB.out) | (with_reducible refine Kd.C_alloc ?_ _) | (with_reducible refine Kd.C_drewN ?_ _) | (with_reducible refine Kd.C_drew ?_))); (case side4 => exact HC0_2.out); (case side5 => repeat (first | exact (Kd.C_below HR0_3.out HB.out) | (with_reducible refine Kd.C_alloc ?_ _) | (with_reducible refine Kd.C_drewN ?_ _) | (with_reducible refine Kd.C_drew ?_))); (case side6 => exact HC0_3.out); rintro e w10 ⟨rfl, hb⟩; refine ⟨_, rfl, ?_⟩; have n0_ := Aside0.mk (blk_below (g := gb120) (o := .cells #[.int .i64 a0_0, .slice A0_1 l0_1.length c0_1, .slice A0_2 l0_2.length c0_2, .slice A0_3 l0_3.length c0_3] 26 (0, 0)) (by (with_reducible repeat (first | refine qN ?_ _ | refine qD ?_ | refine qA ?_ _)); exact BK120.out) hb); have n1_ := Aside0.mk (below_step (by repeat (first | (with_reducible first | exact HB.out | apply pA | apply pN | apply pD | refine pS ?_ GE120.out) | exact HB.out)) hb); clear BK120; clear HB; have BK120 := n0_; have HB := n1_; clear n0_ n1_; (try clear hb); (try clear hb2); (try clear hk); (try clear hi)))
  (try simp only [Act.put, List.setIfInBounds_toArray, List.set_cons_zero, List.set_cons_succ])
  go_cut [20] (fun v20 wc => ∃ (kq : Nat) (x20_6 : Bool), v20 = .bool x20_6 ∧ Aside0 (gate_Verdict.j0 kq a1 a3 a4 t121 t122 x20_6 = some (r1, r2)) ∧ Aside0 (kq ≤ k) ∧ Aside0 (wc.heap[gb120]? = some (.cells #[.int .i64 a0_0, (.slice A0_1 l0_1.length c0_1), (.slice A0_2 l0_2.length c0_2), (.slice A0_3 l0_3.length c0_3)] 26 (0, 0))) ∧ Aside0 (Below w.heap.size w wc))
  case first =>
    have H := HC7.out
    clear HC7
    by_cases c11 : a2 = true
    · subst c11
      have H1 : ((gate_Locked.f a0_0 l0_1 l0_2 l0_3 a1 a4).bind fun t123 => (gate_Verdict.j0 k a1 a3 a4 t121 t122 t123)) = some (r1, r2) := by rw [if_pos rfl] at H; exact H
      clear H
      have H := H1
      clear H1
      replace H := Option.bind_eq_some_iff.mp H
      obtain ⟨t123, A120, H⟩ := H
      replace H : (gate_Verdict.j0 k a1 a3 a4 t121 t122 t123) = some (r1, r2) := H
      have A12 := Aside0.mk A120
      clear A120
      have H' := Aside0.mk H
      clear H
      have hcz13_0 : w10.cell? ⟨gb120, 0, none⟩ = some (.int .i64 a0_0) := (blk_cell BK120.out 0).trans rfl
      have hcz13_1 : w10.cell? ⟨gb120, 1, none⟩ = some (.slice A0_1 l0_1.length c0_1) := (blk_cell BK120.out 1).trans rfl
      have hcz13_2 : w10.cell? ⟨gb120, 2, none⟩ = some (.slice A0_2 l0_2.length c0_2) := (blk_cell BK120.out 2).trans rfl
      have hcz13_3 : w10.cell? ⟨gb120, 3, none⟩ = some (.slice A0_3 l0_3.length c0_3) := (blk_cell BK120.out 3).trans rfl
      have hfz13_0 := blk_frozen BK120.out 0
      have hfz13_1 := blk_frozen BK120.out 1
      have hfz13_2 := blk_frozen BK120.out 2
      have hfz13_3 := blk_frozen BK120.out 3
      go_wp2_with (first | (go_at_call 13; (with_reducible refine (gate_Locked.calls a0_0 _ _ l0_1 _ _ l0_2 _ _ l0_3 a1 a4 t123 _ ?side1 ?side2 ?side3 ?side4 ?side5 ?side6 A12.out).mono ?_); (case side1 => repeat (first | exact (Kd.C_below HR0_1.out HB.out) | (with_reducible refine Kd.C_alloc ?_ _) | (with_reducible refine Kd.C_drewN ?_ _) | (with_reducible refine Kd.C_drew ?_))); (case side2 => exact HC0_1.out); (case side3 => repeat (first | exact (Kd.C_below HR0_2.out HB.out) | (with_reducible refine Kd.C_alloc ?_ _) | (with_reducible refine Kd.C_drewN ?_ _) | (with_reducible refine Kd.C_drew ?_))); (case side4 => exact HC0_2.out); (case side5 => repeat (first | exact (Kd.C_below HR0_3.out HB.out) | (with_reducible refine Kd.C_alloc ?_ _) | (with_reducible refine Kd.C_drewN ?_ _) | (with_reducible refine Kd.C_drew ?_))); (case side6 => exact HC0_3.out); rintro e w14 ⟨rfl, hb⟩; have n0_ := Aside0.mk (blk_below (g := gb120) (o := .cells #[.int .i64 a0_0, .slice A0_1 l0_1.length c0_1, .slice A0_2 l0_2.length c0_2, .slice A0_3 l0_3.length c0_3] 26 (0, 0)) (by (with_reducible repeat (first | refine qN ?_ _ | refine qD ?_ | refine qA ?_ _)); exact BK120.out) hb); have n1_ := Aside0.mk (below_step (by repeat (first | (with_reducible first | exact HB.out | apply pA | apply pN | apply pD | refine pS ?_ GE120.out) | exact HB.out)) hb); clear BK120; clear HB; have BK120 := n0_; have HB := n1_; clear n0_ n1_; (try clear hb); (try clear hb2); (try clear hk); (try clear hi)))
      go_meet
      case rel => exact ⟨_, (t123), (by first | rfl | (simp; done) | (simp [*]; done)), H', ⟨by first | omega | exact Nat.le_refl _⟩, ⟨by (with_reducible repeat (first | refine qN ?_ _ | refine qD ?_ | refine qA ?_ _)); exact BK120.out⟩, ⟨by repeat (first | (with_reducible first | exact HB.out | apply pA | apply pN | apply pD | refine pS ?_ GE120.out) | exact HB.out)⟩⟩
    · replace c11 := Bool.eq_false_iff.mpr c11
      subst c11
      have H1 : (gate_Verdict.j0 k a1 a3 a4 t121 t122 true) = some (r1, r2) := by rw [if_neg (show ¬ (false = true) by decide)] at H; exact H
      clear H
      have H := H1
      clear H1
      have H' := Aside0.mk H
      clear H
      go_wp2
      go_meet
      case rel => exact ⟨_, (true), (by first | rfl | (simp; done) | (simp [*]; done)), H', ⟨by first | omega | exact Nat.le_refl _⟩, ⟨by (with_reducible repeat (first | refine qN ?_ _ | refine qD ?_ | refine qA ?_ _)); exact BK120.out⟩, ⟨by repeat (first | (with_reducible first | exact HB.out | apply pA | apply pN | apply pD | refine pS ?_ GE120.out) | exact HB.out)⟩⟩
  case rest =>
    clear HC7
    try clear c1
    try clear p2
    try clear c11
    try clear c12
    try clear hcz13_0
    try clear hcz13_1
    try clear hcz13_2
    try clear hcz13_3
    try clear hcz9_0
    try clear hcz9_1
    try clear hcz9_2
    try clear hcz9_3
    try clear hfz13_0
    try clear hfz13_1
    try clear hfz13_2
    try clear hfz13_3
    try clear hfz9_0
    try clear hfz9_1
    try clear hfz9_2
    try clear hfz9_3
    obtain ⟨kq, x20_6, rfl, HA, HJ6, BK120, HB⟩ := hcut
    cases kq with
    | zero => exact absurd HA.out (by simp [gate_Verdict.j0])
    | succ kj6 =>
      have H := HA.out
      clear HA
      simp only [gate_Verdict.j0] at H
      by_cases c15 : x20_6 = true
      · subst c15
        have H1 : (some (false, ([] : List (S41)))) = some (r1, r2) := by rw [if_pos rfl] at H; exact H
        clear H
        have H := H1
        clear H1
        simp only [Option.some.injEq, Prod.mk.injEq] at H
        obtain ⟨rfl, rfl⟩ := H
        go_wp2
        go_ret2
        exact ⟨_, by first | rfl | (simp [errW_none, errW_some] <;> rfl) | (simp [*, errW_none, errW_some] <;> rfl), (Kd.V_nil _ _ _ _ _), by repeat (first | (with_reducible first | exact HB.out | apply pA | apply pN | apply pD | refine pS ?_ GE120.out) | exact HB.out)⟩
      · replace c15 := Bool.eq_false_iff.mpr c15
        subst c15
        have H1 : (if a3 = true then (gate_Verdict.j1 kj6 a1 a3 a4 t122 (t121 == 0)) else (gate_Verdict.j1 kj6 a1 a3 a4 t122 false)) = some (r1, r2) := by rw [if_neg (show ¬ (false = true) by decide)] at H; exact H
        clear H
        have H := H1
        clear H1
        have HC16 := Aside0.mk H
        clear H
        go_upto_region 4 with (fail)
        go_cut [29] (fun v29 wc => ∃ (kq : Nat) (x29_15 : Bool), v29 = .bool x29_15 ∧ Aside0 (gate_Verdict.j1 kq a1 a3 a4 t122 x29_15 = some (r1, r2)) ∧ Aside0 (kq ≤ kj6) ∧ Aside0 (wc.heap[gb120]? = some (.cells #[.int .i64 a0_0, (.slice A0_1 l0_1.length c0_1), (.slice A0_2 l0_2.length c0_2), (.slice A0_3 l0_3.length c0_3)] 26 (0, 0))) ∧ Aside0 (Below w.heap.size w wc))
        case first =>
          have H := HC16.out
          clear HC16
          by_cases c17 : a3 = true
          · subst c17
            have H1 : (gate_Verdict.j1 kj6 a1 true a4 t122 (t121 == 0)) = some (r1, r2) := by rw [if_pos rfl] at H; exact H
            clear H
            have H := H1
            clear H1
            have H' := Aside0.mk H
            clear H
            go_wp2
            go_meet
            case rel => exact ⟨_, ((t121 == 0)), (by first | rfl | (simp; done) | (simp [*]; done)), H', ⟨by have := HJ6.out; first | omega | exact Nat.le_refl _⟩, ⟨by (with_reducible repeat (first | refine qN ?_ _ | refine qD ?_ | refine qA ?_ _)); exact BK120.out⟩, ⟨by repeat (first | (with_reducible first | exact HB.out | apply pA | apply pN | apply pD | refine pS ?_ GE120.out) | exact HB.out)⟩⟩
          · replace c17 := Bool.eq_false_iff.mpr c17
            subst c17
            have H1 : (gate_Verdict.j1 kj6 a1 false a4 t122 false) = some (r1, r2) := by rw [if_neg (show ¬ (false = true) by decide)] at H; exact H
            clear H
            have H := H1
            clear H1
            have H' := Aside0.mk H
            clear H
            go_wp2
            go_meet
            case rel => exact ⟨_, (false), (by first | rfl | (simp; done) | (simp [*]; done)), H', ⟨by have := HJ6.out; first | omega | exact Nat.le_refl _⟩, ⟨by (with_reducible repeat (first | refine qN ?_ _ | refine qD ?_ | refine qA ?_ _)); exact BK120.out⟩, ⟨by repeat (first | (with_reducible first | exact HB.out | apply pA | apply pN | apply pD | refine pS ?_ GE120.out) | exact HB.out)⟩⟩
        case rest =>
          clear HC16
          try clear c1
          try clear p2
          try clear c11
          try clear c12
          try clear c15
          try clear c17
          try clear hcz13_0
          try clear hcz13_1
          try clear hcz13_2
          try clear hcz13_3
          try clear hcz9_0
          try clear hcz9_1
          try clear hcz9_2
          try clear hcz9_3
          try clear hfz13_0
          try clear hfz13_1
          try clear hfz13_2
          try clear hfz13_3
          try clear hfz9_0
          try clear hfz9_1
          try clear hfz9_2
          try clear hfz9_3
          try clear p2
          obtain ⟨kq, x29_15, rfl, HA, HJ15, BK120, HB⟩ := hcut
          cases kq with
          | zero => exact absurd HA.out (by simp [gate_Verdict.j1])
          | succ kj15 =>
            have H := HA.out
            clear HA
            simp only [gate_Verdict.j1] at H
            by_cases c18 : x29_15 = true
            · subst c18
              have H1 : (some (true, ([] : List (S41)))) = some (r1, r2) := by rw [if_pos rfl] at H; exact H
              clear H
              have H := H1
              clear H1
              simp only [Option.some.injEq, Prod.mk.injEq] at H
              obtain ⟨rfl, rfl⟩ := H
              go_wp2
              go_ret2
              exact ⟨_, by first | rfl | (simp [errW_none, errW_some] <;> rfl) | (simp [*, errW_none, errW_some] <;> rfl), (Kd.V_nil _ _ _ _ _), by repeat (first | (with_reducible first | exact HB.out | apply pA | apply pN | apply pD | refine pS ?_ GE120.out) | exact HB.out)⟩
            · replace c18 := Bool.eq_false_iff.mpr c18
              subst c18
              have H1 : (if a3 = true then ((gate_may.f kj15 (([(⟨5, 0, 0, 0, a1, 0, 0, 0, 0⟩ : S41)] : List (S41)))).bind fun t127 => (some (true, t127))) else ((gate_may.f kj15 (([(⟨4, 0, 0, 0, a1, 0, 0, 0, mx a4 t122⟩ : S41)] : List (S41)))).bind fun t133 => (some (false, t133)))) = some (r1, r2) := by rw [if_neg (show ¬ (false = true) by decide)] at H; exact H
              clear H
              have H := H1
              clear H1
              by_cases c19 : a3 = true
              · subst c19
                have H1 : ((gate_may.f kj15 (([(⟨5, 0, 0, 0, a1, 0, 0, 0, 0⟩ : S41)] : List (S41)))).bind fun t127 => (some (true, t127))) = some (r1, r2) := by rw [if_pos rfl] at H; exact H
                clear H
                have H := H1
                clear H1
                obtain ⟨y124, hy124⟩ : ∃ y_ : List (S41), y_ = (([(⟨5, 0, 0, 0, a1, 0, 0, 0, 0⟩ : S41)] : List (S41))) := ⟨_, rfl⟩
                replace H : ((gate_may.f kj15 y124).bind fun t127 => (some (true, t127))) = some (r1, r2) := by first | (rw [hy124]; with_reducible exact H) | (have H2_ := (Option.bind_some _ _).symm.trans H; rw [hy124]; with_reducible exact H2_) | (have H2_ := (Option.bind_some _ _).symm.trans H; with_reducible exact H2_) | with_reducible exact H | (rw [hy124]; exact H) | exact H
                have Ny124 := Aside0.mk hy124
                clear hy124
                replace H := Option.bind_eq_some_iff.mp H
                obtain ⟨t127, A200, H⟩ := H
                replace H : (some (true, t127)) = some (r1, r2) := H
                have A20 := Aside0.mk A200
                clear A200
                simp only [Option.some.injEq, Prod.mk.injEq] at H
                obtain ⟨rfl, rfl⟩ := H
                go_wp2_with (first | ((with_reducible refine gate_dst (N := 39) rfl ?_); refine Kd.R_lit k41 _ 41 ?hg (N := 39) ?hd (xs := ([(⟨5, 0, 0, 0, a1, 0, 0, 0, 0⟩ : S41)] : List (S41))) (inner := [.int .i64 5, .int .i64 0, .int .i64 0, .int .u32 0, .string a1, .int .u64 0, .int .u64 0, .int .i64 0, .int .i64 0]) (ok := fun _ => True) (okp := fun _ => True) ?hr ?hp (fun _ hk => hk) trivial (Below.refl _ _) (Nat.le_refl _) (by simp) ?_; (case hd => rfl); (case hg => rfl); (case hr => first | (go_simp; done) | (go_simp; rfl)); (case hp => exact (Reps.c9 (show Kd.M k41 _ _ _ (⟨5, 0, 0, 0, a1, 0, 0, 0, 0⟩ : S41) [.int .i64 5, .int .i64 0, .int .i64 0, .int .u32 0, .string a1, .int .u64 0, .int .u64 0, .int .i64 0, .int .i64 0] from (k41_mkM _ _ _ (⟨5, 0, 0, 0, a1, 0, 0, 0, 0⟩ : S41) )) (Reps.none _ _))); intro v125 w21 ho22 hb hg_ hnew_; clear hg_ hnew_; (first | rw [← Ny124.out] at ho22 | (simp only [Int.reduceToNat] at ho22; rw [← Ny124.out] at ho22)); have n0_ := Aside0.mk (Kd.R_lower (Kd.R_newM (M := fun k_ => (w.heap.size ≤ k_)) ho22 (below_size (by repeat (first | (with_reducible first | exact HB.out | apply pA | apply pN | apply pD | refine pS ?_ GE120.out) | exact HB.out))) (fun k_ h_ => h_)) (below_size (by repeat (first | (with_reducible first | exact HB.out | apply pA | apply pN | apply pD | refine pS ?_ GE120.out) | exact HB.out)))); have n1_ := Aside0.mk (blk_below (g := gb120) (o := .cells #[.int .i64 a0_0, .slice A0_1 l0_1.length c0_1, .slice A0_2 l0_2.length c0_2, .slice A0_3 l0_3.length c0_3] 26 (0, 0)) (by (with_reducible repeat (first | refine qN ?_ _ | refine qD ?_ | refine qA ?_ _)); exact BK120.out) hb); have n2_ := Aside0.mk (below_step (by repeat (first | (with_reducible first | exact HB.out | apply pA | apply pN | apply pD | refine pS ?_ GE120.out) | exact HB.out)) hb); clear BK120; clear HB; have HO126 := n0_; have BK120 := n1_; have HB := n2_; clear n0_ n1_ n2_; clear hb ho22; obtain ⟨Ao23, co23, eo23⟩ := Kd.R_slice HO126.out; subst eo23) | ((with_reducible refine gate_callee (f := 19) rfl ?_); refine goesL_ (some 40) rfl rfl Try.func19 (by kernel_rfl) rfl #[.slice Ao23 y124.length co23] rfl (by (try simp only [List.map_toArray, List.map_cons, List.map_nil]); first | done | rfl | (simp only [List.length_drop, List.length_take]; rfl)) ?_; (with_reducible refine (gate_may.calls kj15 (fun k_ => some k_ = (.slice Ao23 y124.length co23 : Value).ownBlock) _ _ y124 t127 _ ?side1 A20.out).mono ?_); (case side1 => exact Kd.R_V (Kd.R_tight rfl (Kd.R_types (HO126.out) BK120.out (by decide)))); rintro e w24 ⟨v128, rfl, ho0, hb⟩; refine ⟨_, rfl, ?_⟩; have n0_ := Aside0.mk (Kd.R_below (by (with_reducible repeat (first | apply Kd.R_alloc | apply Kd.R_drewN | apply Kd.R_drew)); exact HO126.out) hb); have n1_ := Aside0.mk (Kd.V_lower (Kd.V_mono (ok' := fun k_ => (w.heap.size ≤ k_) ∧ k_ ≠ gb120) ho0 (fun k_ hk_ => ⟨Or.elim hk_ (fun hs_ => ((Kd.R_types (HO126.out) BK120.out (by decide)).1 k_ hs_.symm).1.1) (fun hn_ => (Nat.le_trans (below_size (by repeat (first | (with_reducible first | exact HB.out | apply pA | apply pN | apply pD | refine pS ?_ GE120.out) | exact HB.out))) hn_)), Or.elim hk_ (fun hs_ => ((Kd.R_types (HO126.out) BK120.out (by decide)).1 k_ hs_.symm).2) (fun hn_ => (Kd.freshB (g := gb120) (o := .cells #[.int .i64 a0_0, .slice A0_1 l0_1.length c0_1, .slice A0_2 l0_2.length c0_2, .slice A0_3 l0_3.length c0_3] 26 (0, 0)) (by (with_reducible repeat (first | refine qN ?_ _ | refine qD ?_ | refine qA ?_ _)); exact BK120.out) k_ hn_))⟩)) (below_size (by repeat (first | (with_reducible first | exact HB.out | apply pA | apply pN | apply pD | refine pS ?_ GE120.out) | exact HB.out)))); have n2_ := Aside0.mk (blk_below (g := gb120) (o := .cells #[.int .i64 a0_0, .slice A0_1 l0_1.length c0_1, .slice A0_2 l0_2.length c0_2, .slice A0_3 l0_3.length c0_3] 26 (0, 0)) (by (with_reducible repeat (first | refine qN ?_ _ | refine qD ?_ | refine qA ?_ _)); exact BK120.out) hb); have n3_ := Aside0.mk (below_step (by repeat (first | (with_reducible first | exact HB.out | apply pA | apply pN | apply pD | refine pS ?_ GE120.out) | exact HB.out)) hb); clear HO126; clear BK120; clear HB; have HO126 := n0_; have HO129 := n1_; have BK120 := n2_; have HB := n3_; clear n0_ n1_ n2_ n3_; (try clear hb); (try clear hb2); (try clear hk); (try clear hi); (try clear ho0)))
                go_ret2
                exact ⟨_, by first | rfl | (simp [errW_none, errW_some] <;> rfl) | (simp [*, errW_none, errW_some] <;> rfl), by (with_reducible repeat (first | apply Kd.V_alloc | apply Kd.V_drewN | apply Kd.V_drew)); exact Kd.V_mono HO129.out (fun _ hk => hk.1), by repeat (first | (with_reducible first | exact HB.out | apply pA | apply pN | apply pD | refine pS ?_ GE120.out) | exact HB.out)⟩
              · replace c19 := Bool.eq_false_iff.mpr c19
                subst c19
                have H1 : ((gate_may.f kj15 (([(⟨4, 0, 0, 0, a1, 0, 0, 0, mx a4 t122⟩ : S41)] : List (S41)))).bind fun t133 => (some (false, t133))) = some (r1, r2) := by rw [if_neg (show ¬ (false = true) by decide)] at H; exact H
                clear H
                have H := H1
                clear H1
                obtain ⟨ji25, hji25⟩ : ∃ j_ : Int, (mx a4 t122) = j_ := ⟨_, rfl⟩
                replace H : ((gate_may.f kj15 (([(⟨4, 0, 0, 0, a1, 0, 0, 0, ji25⟩ : S41)] : List (S41)))).bind fun t133 => (some (false, t133))) = some (r1, r2) := by first | (rw [hji25] at H; exact H) | (simp only [hji25] at H ⊢; exact H)
                have hji25_ : (if a4 < t122 then t122 else a4) = ji25 := hji25
                obtain ⟨y130, hy130⟩ : ∃ y_ : List (S41), y_ = (([(⟨4, 0, 0, 0, a1, 0, 0, 0, ji25⟩ : S41)] : List (S41))) := ⟨_, rfl⟩
                replace H : ((gate_may.f kj15 y130).bind fun t133 => (some (false, t133))) = some (r1, r2) := by first | (rw [hy130]; with_reducible exact H) | (have H2_ := (Option.bind_some _ _).symm.trans H; rw [hy130]; with_reducible exact H2_) | (have H2_ := (Option.bind_some _ _).symm.trans H; with_reducible exact H2_) | with_reducible exact H | (rw [hy130]; exact H) | exact H
                have Ny130 := Aside0.mk hy130
                clear hy130
                replace H := Option.bind_eq_some_iff.mp H
                obtain ⟨t133, A260, H⟩ := H
                replace H : (some (false, t133)) = some (r1, r2) := H
                have A26 := Aside0.mk A260
                clear A260
                simp only [Option.some.injEq, Prod.mk.injEq] at H
                obtain ⟨rfl, rfl⟩ := H
                go_wp2_with (first | ((with_reducible refine gate_dst (N := 46) rfl ?_); refine Kd.R_lit k41 _ 41 ?hg (N := 46) ?hd (xs := ([(⟨4, 0, 0, 0, a1, 0, 0, 0, ji25⟩ : S41)] : List (S41))) (inner := [.int .i64 4, .int .i64 0, .int .i64 0, .int .u32 0, .string a1, .int .u64 0, .int .u64 0, .int .i64 0, .int .i64 ji25]) (ok := fun _ => True) (okp := fun _ => True) ?hr ?hp (fun _ hk => hk) trivial (Below.refl _ _) (Nat.le_refl _) (by simp) ?_; (case hd => rfl); (case hg => rfl); (case hr => first | (go_simp; done) | (go_simp; rfl)); (case hp => exact (Reps.c9 (show Kd.M k41 _ _ _ (⟨4, 0, 0, 0, a1, 0, 0, 0, ji25⟩ : S41) [.int .i64 4, .int .i64 0, .int .i64 0, .int .u32 0, .string a1, .int .u64 0, .int .u64 0, .int .i64 0, .int .i64 ji25] from (k41_mkM _ _ _ (⟨4, 0, 0, 0, a1, 0, 0, 0, ji25⟩ : S41) )) (Reps.none _ _))); intro v131 w27 ho28 hb hg_ hnew_; clear hg_ hnew_; (first | rw [← Ny130.out] at ho28 | (simp only [Int.reduceToNat] at ho28; rw [← Ny130.out] at ho28)); have n0_ := Aside0.mk (Kd.R_lower (Kd.R_newM (M := fun k_ => (w.heap.size ≤ k_)) ho28 (below_size (by repeat (first | (with_reducible first | exact HB.out | apply pA | apply pN | apply pD | refine pS ?_ GE120.out) | exact HB.out))) (fun k_ h_ => h_)) (below_size (by repeat (first | (with_reducible first | exact HB.out | apply pA | apply pN | apply pD | refine pS ?_ GE120.out) | exact HB.out)))); have n1_ := Aside0.mk (blk_below (g := gb120) (o := .cells #[.int .i64 a0_0, .slice A0_1 l0_1.length c0_1, .slice A0_2 l0_2.length c0_2, .slice A0_3 l0_3.length c0_3] 26 (0, 0)) (by (with_reducible repeat (first | refine qN ?_ _ | refine qD ?_ | refine qA ?_ _)); exact BK120.out) hb); have n2_ := Aside0.mk (below_step (by repeat (first | (with_reducible first | exact HB.out | apply pA | apply pN | apply pD | refine pS ?_ GE120.out) | exact HB.out)) hb); clear BK120; clear HB; have HO132 := n0_; have BK120 := n1_; have HB := n2_; clear n0_ n1_ n2_; clear hb ho28; obtain ⟨Ao29, co29, eo29⟩ := Kd.R_slice HO132.out; subst eo29) | ((with_reducible refine gate_callee (f := 19) rfl ?_); refine goesL_ (some 47) rfl rfl Try.func19 (by kernel_rfl) rfl #[.slice Ao29 y130.length co29] rfl (by (try simp only [List.map_toArray, List.map_cons, List.map_nil]); first | done | rfl | (simp only [List.length_drop, List.length_take]; rfl)) ?_; (with_reducible refine (gate_may.calls kj15 (fun k_ => some k_ = (.slice Ao29 y130.length co29 : Value).ownBlock) _ _ y130 t133 _ ?side1 A26.out).mono ?_); (case side1 => exact Kd.R_V (Kd.R_tight rfl (Kd.R_types (HO132.out) BK120.out (by decide)))); rintro e w30 ⟨v134, rfl, ho0, hb⟩; refine ⟨_, rfl, ?_⟩; have n0_ := Aside0.mk (Kd.R_below (by (with_reducible repeat (first | apply Kd.R_alloc | apply Kd.R_drewN | apply Kd.R_drew)); exact HO132.out) hb); have n1_ := Aside0.mk (Kd.V_lower (Kd.V_mono (ok' := fun k_ => (w.heap.size ≤ k_) ∧ k_ ≠ gb120) ho0 (fun k_ hk_ => ⟨Or.elim hk_ (fun hs_ => ((Kd.R_types (HO132.out) BK120.out (by decide)).1 k_ hs_.symm).1.1) (fun hn_ => (Nat.le_trans (below_size (by repeat (first | (with_reducible first | exact HB.out | apply pA | apply pN | apply pD | refine pS ?_ GE120.out) | exact HB.out))) hn_)), Or.elim hk_ (fun hs_ => ((Kd.R_types (HO132.out) BK120.out (by decide)).1 k_ hs_.symm).2) (fun hn_ => (Kd.freshB (g := gb120) (o := .cells #[.int .i64 a0_0, .slice A0_1 l0_1.length c0_1, .slice A0_2 l0_2.length c0_2, .slice A0_3 l0_3.length c0_3] 26 (0, 0)) (by (with_reducible repeat (first | refine qN ?_ _ | refine qD ?_ | refine qA ?_ _)); exact BK120.out) k_ hn_))⟩)) (below_size (by repeat (first | (with_reducible first | exact HB.out | apply pA | apply pN | apply pD | refine pS ?_ GE120.out) | exact HB.out)))); have n2_ := Aside0.mk (blk_below (g := gb120) (o := .cells #[.int .i64 a0_0, .slice A0_1 l0_1.length c0_1, .slice A0_2 l0_2.length c0_2, .slice A0_3 l0_3.length c0_3] 26 (0, 0)) (by (with_reducible repeat (first | refine qN ?_ _ | refine qD ?_ | refine qA ?_ _)); exact BK120.out) hb); have n3_ := Aside0.mk (below_step (by repeat (first | (with_reducible first | exact HB.out | apply pA | apply pN | apply pD | refine pS ?_ GE120.out) | exact HB.out)) hb); clear HO132; clear BK120; clear HB; have HO132 := n0_; have HO135 := n1_; have BK120 := n2_; have HB := n3_; clear n0_ n1_ n2_ n3_; (try clear hb); (try clear hb2); (try clear hk); (try clear hi); (try clear ho0)))
                go_ret2
                exact ⟨_, by first | rfl | (simp [errW_none, errW_some] <;> rfl) | (simp only [← hji25]; first | rfl | (simp [errW_none, errW_some] <;> rfl)) | (simp [*, errW_none, errW_some] <;> rfl), by (with_reducible repeat (first | apply Kd.V_alloc | apply Kd.V_drewN | apply Kd.V_drew)); exact Kd.V_mono HO135.out (fun _ hk => hk.1), by repeat (first | (with_reducible first | exact HB.out | apply pA | apply pN | apply pD | refine pS ?_ GE120.out) | exact HB.out)⟩

/-! ### portreevelaw16_shown_g: function 9 -/
def portreevelaw16_shown_g.f (k : Nat)  : Option (Bool) := (some (([(⟨(⟨#[117]⟩ : ByteArray), 3, 7⟩ : S64)] : List (S64)) : List (S64))).bind fun y136 => ((gate_Failed.f 0 ([] : List (S76)) ([] : List (S72)) y136 (⟨#[117]⟩ : ByteArray)).bind fun bt140 => ((gate_Verdict.f k 0 ([] : List (S76)) ([] : List (S72)) y136 (⟨#[117]⟩ : ByteArray) true true 27).bind fun bt142 => ((gate_Verdict.f k 0 ([] : List (S76)) ([] : List (S72)) y136 (⟨#[117]⟩ : ByteArray) true true 26).bind fun bt146 => ((gate_Until.f 0 ([] : List (S76)) ([] : List (S72)) y136 (⟨#[117]⟩ : ByteArray)).bind fun t150 => (if t150 = 27 then ((gate_Locked.f 0 ([] : List (S76)) ([] : List (S72)) y136 (⟨#[117]⟩ : ByteArray) 26).bind fun t151 => (if t151 = true then ((gate_Locked.f 0 ([] : List (S76)) ([] : List (S72)) y136 (⟨#[117]⟩ : ByteArray) 27).bind fun t152 => (if t152 = true then (some false) else (if bt140.1 = 3 then (if bt140.2 = 7 then (if bt142.1 = true then (if (bt142.2.length : Int) = 1 then (if 0 < (bt142.2.length : Int) then (if ((rd_T41 bt142.2 0).f0) = 5 then (if bt146.1 = true then (some false) else (some ((bt146.2.length : Int) == 0))) else (some false)) else (none)) else (some false)) else (some false)) else (some false)) else (some false)))) else (some false))) else (some false))))))
theorem portreevelaw16_shown_g.mono : ∀ k, LeO (portreevelaw16_shown_g.f k ) (portreevelaw16_shown_g.f (k + 1) ) := by
  intro  k
  unfold portreevelaw16_shown_g.f
  repeat' first
      | (with_reducible exact gate_Verdict.mono _ _ _ _ _ _ _ _ _)
      | (with_reducible exact LeO.refl _)
      | (with_reducible exact LeO.none _)
      | (with_reducible refine LeO.ite ?_ ?_)
      | (with_reducible refine LeO.bind ?_ (fun _ => ?_))
      | exact gate_Verdict.mono _ _ _ _ _ _ _ _ _
      | exact LeO.none _
      | refine LeO.ite ?_ ?_
      | refine LeO.bind ?_ (fun _ => ?_)
set_option maxHeartbeats 8000000 in
set_option maxRecDepth 100000 in
theorem portreevelaw16_shown_g.calls (k : Nat)  (r : Bool) (w : World) (hlaw_ : Aside0 (r = true)) (h : portreevelaw16_shown_g.f k  = some r) :
    Calls Try.prog 9 #[] w fun e w' => e = .returned (.bool r) ∧ Below w.heap.size w w' := by
  have hu64 := Try.underlying64
  have hu26 := Try.underlying26
  have hu41 := Try.underlying41
  have HB := Aside0.mk (Below.refl w.heap.size w)
  have H : ((some (([(⟨(⟨#[117]⟩ : ByteArray), 3, 7⟩ : S64)] : List (S64)) : List (S64))).bind fun y136 => ((gate_Failed.f 0 ([] : List (S76)) ([] : List (S72)) y136 (⟨#[117]⟩ : ByteArray)).bind fun bt140 => ((gate_Verdict.f k 0 ([] : List (S76)) ([] : List (S72)) y136 (⟨#[117]⟩ : ByteArray) true true 27).bind fun bt142 => ((gate_Verdict.f k 0 ([] : List (S76)) ([] : List (S72)) y136 (⟨#[117]⟩ : ByteArray) true true 26).bind fun bt146 => ((gate_Until.f 0 ([] : List (S76)) ([] : List (S72)) y136 (⟨#[117]⟩ : ByteArray)).bind fun t150 => (if t150 = 27 then ((gate_Locked.f 0 ([] : List (S76)) ([] : List (S72)) y136 (⟨#[117]⟩ : ByteArray) 26).bind fun t151 => (if t151 = true then ((gate_Locked.f 0 ([] : List (S76)) ([] : List (S72)) y136 (⟨#[117]⟩ : ByteArray) 27).bind fun t152 => (if t152 = true then (some false) else (if bt140.1 = 3 then (if bt140.2 = 7 then (if bt142.1 = true then (if (bt142.2.length : Int) = 1 then (if 0 < (bt142.2.length : Int) then (if ((rd_T41 bt142.2 0).f0) = 5 then (if bt146.1 = true then (some false) else (some ((bt146.2.length : Int) == 0))) else (some false)) else (none)) else (some false)) else (some false)) else (some false)) else (some false)))) else (some false))) else (some false))))))) = some r := h
  clear h
  obtain ⟨y136, hy136⟩ : ∃ y_ : List (S64), y_ = (([(⟨(⟨#[117]⟩ : ByteArray), 3, 7⟩ : S64)] : List (S64))) := ⟨_, rfl⟩
  replace H : ((gate_Failed.f 0 ([] : List (S76)) ([] : List (S72)) y136 (⟨#[117]⟩ : ByteArray)).bind fun bt140 => ((gate_Verdict.f k 0 ([] : List (S76)) ([] : List (S72)) y136 (⟨#[117]⟩ : ByteArray) true true 27).bind fun bt142 => ((gate_Verdict.f k 0 ([] : List (S76)) ([] : List (S72)) y136 (⟨#[117]⟩ : ByteArray) true true 26).bind fun bt146 => ((gate_Until.f 0 ([] : List (S76)) ([] : List (S72)) y136 (⟨#[117]⟩ : ByteArray)).bind fun t150 => (if t150 = 27 then ((gate_Locked.f 0 ([] : List (S76)) ([] : List (S72)) y136 (⟨#[117]⟩ : ByteArray) 26).bind fun t151 => (if t151 = true then ((gate_Locked.f 0 ([] : List (S76)) ([] : List (S72)) y136 (⟨#[117]⟩ : ByteArray) 27).bind fun t152 => (if t152 = true then (some false) else (if bt140.1 = 3 then (if bt140.2 = 7 then (if bt142.1 = true then (if (bt142.2.length : Int) = 1 then (if 0 < (bt142.2.length : Int) then (if ((rd_T41 bt142.2 0).f0) = 5 then (if bt146.1 = true then (some false) else (some ((bt146.2.length : Int) == 0))) else (some false)) else (none)) else (some false)) else (some false)) else (some false)) else (some false)))) else (some false))) else (some false)))))) = some r := by first | (rw [hy136]; with_reducible exact H) | (have H2_ := (Option.bind_some _ _).symm.trans H; rw [hy136]; with_reducible exact H2_) | (have H2_ := (Option.bind_some _ _).symm.trans H; with_reducible exact H2_) | with_reducible exact H | (rw [hy136]; exact H) | exact H
  have Ny136 := Aside0.mk hy136
  clear hy136
  replace H := Option.bind_eq_some_iff.mp H
  obtain ⟨⟨t140, t141⟩, A10, H⟩ := H
  replace H : ((gate_Verdict.f k 0 ([] : List (S76)) ([] : List (S72)) y136 (⟨#[117]⟩ : ByteArray) true true 27).bind fun bt142 => ((gate_Verdict.f k 0 ([] : List (S76)) ([] : List (S72)) y136 (⟨#[117]⟩ : ByteArray) true true 26).bind fun bt146 => ((gate_Until.f 0 ([] : List (S76)) ([] : List (S72)) y136 (⟨#[117]⟩ : ByteArray)).bind fun t150 => (if t150 = 27 then ((gate_Locked.f 0 ([] : List (S76)) ([] : List (S72)) y136 (⟨#[117]⟩ : ByteArray) 26).bind fun t151 => (if t151 = true then ((gate_Locked.f 0 ([] : List (S76)) ([] : List (S72)) y136 (⟨#[117]⟩ : ByteArray) 27).bind fun t152 => (if t152 = true then (some false) else (if t140 = 3 then (if t141 = 7 then (if bt142.1 = true then (if (bt142.2.length : Int) = 1 then (if 0 < (bt142.2.length : Int) then (if ((rd_T41 bt142.2 0).f0) = 5 then (if bt146.1 = true then (some false) else (some ((bt146.2.length : Int) == 0))) else (some false)) else (none)) else (some false)) else (some false)) else (some false)) else (some false)))) else (some false))) else (some false))))) = some r := H
  have A1 := Aside0.mk A10
  clear A10
  replace H := Option.bind_eq_some_iff.mp H
  obtain ⟨⟨t142, t143⟩, A20, H⟩ := H
  replace H : ((gate_Verdict.f k 0 ([] : List (S76)) ([] : List (S72)) y136 (⟨#[117]⟩ : ByteArray) true true 26).bind fun bt146 => ((gate_Until.f 0 ([] : List (S76)) ([] : List (S72)) y136 (⟨#[117]⟩ : ByteArray)).bind fun t150 => (if t150 = 27 then ((gate_Locked.f 0 ([] : List (S76)) ([] : List (S72)) y136 (⟨#[117]⟩ : ByteArray) 26).bind fun t151 => (if t151 = true then ((gate_Locked.f 0 ([] : List (S76)) ([] : List (S72)) y136 (⟨#[117]⟩ : ByteArray) 27).bind fun t152 => (if t152 = true then (some false) else (if t140 = 3 then (if t141 = 7 then (if t142 = true then (if (t143.length : Int) = 1 then (if 0 < (t143.length : Int) then (if ((rd_T41 t143 0).f0) = 5 then (if bt146.1 = true then (some false) else (some ((bt146.2.length : Int) == 0))) else (some false)) else (none)) else (some false)) else (some false)) else (some false)) else (some false)))) else (some false))) else (some false)))) = some r := H
  have A2 := Aside0.mk A20
  clear A20
  replace H := Option.bind_eq_some_iff.mp H
  obtain ⟨⟨t146, t147⟩, A30, H⟩ := H
  replace H : ((gate_Until.f 0 ([] : List (S76)) ([] : List (S72)) y136 (⟨#[117]⟩ : ByteArray)).bind fun t150 => (if t150 = 27 then ((gate_Locked.f 0 ([] : List (S76)) ([] : List (S72)) y136 (⟨#[117]⟩ : ByteArray) 26).bind fun t151 => (if t151 = true then ((gate_Locked.f 0 ([] : List (S76)) ([] : List (S72)) y136 (⟨#[117]⟩ : ByteArray) 27).bind fun t152 => (if t152 = true then (some false) else (if t140 = 3 then (if t141 = 7 then (if t142 = true then (if (t143.length : Int) = 1 then (if 0 < (t143.length : Int) then (if ((rd_T41 t143 0).f0) = 5 then (if t146 = true then (some false) else (some ((t147.length : Int) == 0))) else (some false)) else (none)) else (some false)) else (some false)) else (some false)) else (some false)))) else (some false))) else (some false))) = some r := H
  have A3 := Aside0.mk A30
  clear A30
  replace H := Option.bind_eq_some_iff.mp H
  obtain ⟨t150, A40, H⟩ := H
  replace H : (if t150 = 27 then ((gate_Locked.f 0 ([] : List (S76)) ([] : List (S72)) y136 (⟨#[117]⟩ : ByteArray) 26).bind fun t151 => (if t151 = true then ((gate_Locked.f 0 ([] : List (S76)) ([] : List (S72)) y136 (⟨#[117]⟩ : ByteArray) 27).bind fun t152 => (if t152 = true then (some false) else (if t140 = 3 then (if t141 = 7 then (if t142 = true then (if (t143.length : Int) = 1 then (if 0 < (t143.length : Int) then (if ((rd_T41 t143 0).f0) = 5 then (if t146 = true then (some false) else (some ((t147.length : Int) == 0))) else (some false)) else (none)) else (some false)) else (some false)) else (some false)) else (some false)))) else (some false))) else (some false)) = some r := H
  have A4 := Aside0.mk A40
  clear A40
  by_cases c5 : t150 = 27
  · rw [if_pos c5] at H
    have c5b0 : (t150 == 27) = true := beq_iff_eq.mpr c5
    have c5b1 : (t150 != 27) = false := bne_eq_false_iff_eq.mpr c5
    clear c5
    replace H := Option.bind_eq_some_iff.mp H
    obtain ⟨t151, A60, H⟩ := H
    replace H : (if t151 = true then ((gate_Locked.f 0 ([] : List (S76)) ([] : List (S72)) y136 (⟨#[117]⟩ : ByteArray) 27).bind fun t152 => (if t152 = true then (some false) else (if t140 = 3 then (if t141 = 7 then (if t142 = true then (if (t143.length : Int) = 1 then (if 0 < (t143.length : Int) then (if ((rd_T41 t143 0).f0) = 5 then (if t146 = true then (some false) else (some ((t147.length : Int) == 0))) else (some false)) else (none)) else (some false)) else (some false)) else (some false)) else (some false)))) else (some false)) = some r := H
    have A6 := Aside0.mk A60
    clear A60
    by_cases c7 : t151 = true
    · subst c7
      have H1 : ((gate_Locked.f 0 ([] : List (S76)) ([] : List (S72)) y136 (⟨#[117]⟩ : ByteArray) 27).bind fun t152 => (if t152 = true then (some false) else (if t140 = 3 then (if t141 = 7 then (if t142 = true then (if (t143.length : Int) = 1 then (if 0 < (t143.length : Int) then (if ((rd_T41 t143 0).f0) = 5 then (if t146 = true then (some false) else (some ((t147.length : Int) == 0))) else (some false)) else (none)) else (some false)) else (some false)) else (some false)) else (some false)))) = some r := by rw [if_pos rfl] at H; exact H
      clear H
      have H := H1
      clear H1
      replace H := Option.bind_eq_some_iff.mp H
      obtain ⟨t152, A80, H⟩ := H
      replace H : (if t152 = true then (some false) else (if t140 = 3 then (if t141 = 7 then (if t142 = true then (if (t143.length : Int) = 1 then (if 0 < (t143.length : Int) then (if ((rd_T41 t143 0).f0) = 5 then (if t146 = true then (some false) else (some ((t147.length : Int) == 0))) else (some false)) else (none)) else (some false)) else (some false)) else (some false)) else (some false))) = some r := H
      have A8 := Aside0.mk A80
      clear A80
      by_cases c9 : t152 = true
      · subst c9
        have H1 : (some false) = some r := by rw [if_pos rfl] at H; exact H
        clear H
        have H := H1
        clear H1
        exact absurd ((Option.some.inj H).trans hlaw_.out) (by decide)
      · replace c9 := Bool.eq_false_iff.mpr c9
        subst c9
        have H1 : (if t140 = 3 then (if t141 = 7 then (if t142 = true then (if (t143.length : Int) = 1 then (if 0 < (t143.length : Int) then (if ((rd_T41 t143 0).f0) = 5 then (if t146 = true then (some false) else (some ((t147.length : Int) == 0))) else (some false)) else (none)) else (some false)) else (some false)) else (some false)) else (some false)) = some r := by rw [if_neg (show ¬ (false = true) by decide)] at H; exact H
        clear H
        have H := H1
        clear H1
        by_cases c10 : t140 = 3
        · rw [if_pos c10] at H
          have c10b0 : (t140 == 3) = true := beq_iff_eq.mpr c10
          have c10b1 : (t140 != 3) = false := bne_eq_false_iff_eq.mpr c10
          clear c10
          by_cases c11 : t141 = 7
          · rw [if_pos c11] at H
            have c11b0 : (t141 == 7) = true := beq_iff_eq.mpr c11
            have c11b1 : (t141 != 7) = false := bne_eq_false_iff_eq.mpr c11
            clear c11
            by_cases c12 : t142 = true
            · subst c12
              have H1 : (if (t143.length : Int) = 1 then (if 0 < (t143.length : Int) then (if ((rd_T41 t143 0).f0) = 5 then (if t146 = true then (some false) else (some ((t147.length : Int) == 0))) else (some false)) else (none)) else (some false)) = some r := by rw [if_pos rfl] at H; exact H
              clear H
              have H := H1
              clear H1
              by_cases c13 : (t143.length : Int) = 1
              · rw [if_pos c13] at H
                have c13b0 : ((t143.length : Int) == 1) = true := beq_iff_eq.mpr c13
                have c13b1 : ((t143.length : Int) != 1) = false := bne_eq_false_iff_eq.mpr c13
                clear c13
                by_cases c14 : 0 < (t143.length : Int)
                · rw [if_pos c14] at H
                  have c14b0 : decide (0 < (t143.length : Int)) = true := decide_eq_true c14
                  have c14b1 : decide (0 < t143.length) = true := decide_eq_true (by omega)
                  clear c14
                  by_cases c15 : ((rd_T41 t143 0).f0) = 5
                  · rw [if_pos c15] at H
                    have c15b0 : (((rd_T41 t143 0).f0) == 5) = true := beq_iff_eq.mpr c15
                    have c15b1 : (((rd_T41 t143 0).f0) != 5) = false := bne_eq_false_iff_eq.mpr c15
                    clear c15
                    by_cases c16 : t146 = true
                    · subst c16
                      have H1 : (some false) = some r := by rw [if_pos rfl] at H; exact H
                      clear H
                      have H := H1
                      clear H1
                      exact absurd ((Option.some.inj H).trans hlaw_.out) (by decide)
                    · replace c16 := Bool.eq_false_iff.mpr c16
                      subst c16
                      have H1 : (some ((t147.length : Int) == 0)) = some r := by rw [if_neg (show ¬ (false = true) by decide)] at H; exact H
                      clear H
                      have H := H1
                      clear H1
                      clear hlaw_
                      obtain rfl := Option.some.inj H
                      go_enter Try.func9, Try.ntmps9
                      go_wp2_with (first | ((with_reducible refine gate_dst (N := 9) rfl ?_); (try (refine gate_guard (by rfl) ?_; dsimp only)); refine Kd.R_lit k64 _ 64 ?hg (N := 9) ?hd (xs := ([(⟨(⟨#[117]⟩ : ByteArray), 3, 7⟩ : S64)] : List (S64))) (inner := [.string (⟨#[117]⟩ : ByteArray), .int .i64 3, .int .i64 7]) (ok := fun _ => True) (okp := fun _ => True) ?hr ?hp (fun _ hk => hk) trivial (Below.refl _ _) (Nat.le_refl _) (by simp) ?_; (case hd => rfl); (case hg => rfl); (case hr => first | (go_simp; done) | (go_simp; rfl)); (case hp => exact (Reps.c3 (show Kd.M k64 _ _ _ (⟨(⟨#[117]⟩ : ByteArray), 3, 7⟩ : S64) [.string (⟨#[117]⟩ : ByteArray), .int .i64 3, .int .i64 7] from (k64_mkM _ _ _ (⟨(⟨#[117]⟩ : ByteArray), 3, 7⟩ : S64) )) (Reps.none _ _))); intro v137 w17 ho18 hb hg_ hnew_; clear hg_ hnew_; (first | rw [← Ny136.out] at ho18 | (simp only [Int.reduceToNat] at ho18; rw [← Ny136.out] at ho18)); have n0_ := Aside0.mk (Kd.R_lower ho18 (below_size (by repeat (first | (with_reducible first | exact HB.out | apply pA | apply pN | apply pD) | exact HB.out)))); have n1_ := Aside0.mk (below_step (by repeat (first | (with_reducible first | exact HB.out | apply pA | apply pN | apply pD) | exact HB.out)) hb); clear HB; have HO138 := n0_; have HB := n1_; clear n0_ n1_; clear hb ho18; obtain ⟨Ao19, co19, eo19⟩ := Kd.R_slice HO138.out; subst eo19) | ((with_reducible refine gate_dst (N := 1) rfl ?_); (try (refine gate_guard (by rfl) ?_; dsimp only)); refine box_event ?hg (N := 1) ?hd (cs := #[.int .i64 0, .slice none 0 0, .slice none 0 0, .slice none 0 0]) (t := 26) ?hr ?_; (case hd => rfl); (case hg => rfl); (case hr => first | (go_simp; done) | (go_simp; rfl)); intro gb139 hg w20 hbox hb; have n0_ := Aside0.mk (Kd.R_below (by (with_reducible repeat (first | apply Kd.R_alloc | apply Kd.R_drewN | apply Kd.R_drew)); exact HO138.out) hb); have n1_ := Aside0.mk (below_step (by repeat (first | (with_reducible first | exact HB.out | apply pA | apply pN | apply pD) | exact HB.out)) hb); have n2_ := Aside0.mk (hbox); have n3_ := Aside0.mk ((by rw [hg]; exact (below_size (by repeat (first | (with_reducible first | exact HB.out | apply pA | apply pN | apply pD) | exact HB.out))) : w.heap.size ≤ gb139)); have n4_ := Aside0.mk ((by rw [hg]; exact (below_size (by repeat (first | (with_reducible first | exact HB.out | apply pA | apply pN | apply pD) | exact HB.out))) : w.heap.size ≤ gb139)); clear HO138; clear HB; have HO138 := n0_; have HB := n1_; have BK139 := n2_; have GW139 := n3_; have GE139 := n4_; clear n0_ n1_ n2_ n3_ n4_; clear hb hbox hg; have hcz21_0 : w20.cell? ⟨gb139, 0, none⟩ = some (.int .i64 0) := (blk_cell BK139.out 0).trans rfl; have hcz21_1 : w20.cell? ⟨gb139, 1, none⟩ = some (.slice none 0 0) := (blk_cell BK139.out 1).trans rfl; have hcz21_2 : w20.cell? ⟨gb139, 2, none⟩ = some (.slice none 0 0) := (blk_cell BK139.out 2).trans rfl; have hcz21_3 : w20.cell? ⟨gb139, 3, none⟩ = some (.slice none 0 0) := (blk_cell BK139.out 3).trans rfl; have hfz21_0 := blk_frozen BK139.out 0; have hfz21_1 := blk_frozen BK139.out 1; have hfz21_2 := blk_frozen BK139.out 2; have hfz21_3 := blk_frozen BK139.out 3) | ((with_reducible refine gate_callee (f := 12) rfl ?_); refine goesL_ (some 13) rfl rfl Try.func12 (by kernel_rfl) rfl #[.agg #[.int .i64 0, .slice none 0 0, .slice none 0 0, .slice Ao19 y136.length co19], .string (⟨#[117]⟩ : ByteArray)] rfl (by (try simp only [List.map_toArray, List.map_cons, List.map_nil]); first | done | rfl | (simp only [List.length_drop, List.length_take]; rfl)) ?_; (refine (gate_Failed.calls 0 _ _ ([] : List (S76)) _ _ ([] : List (S72)) _ _ y136 (⟨#[117]⟩ : ByteArray) t140 t141 _ ?side1 ?side2 ?side3 ?side4 ?side5 ?side6 A1.out).mono ?_); (case side1 => exact Kd.C_nil _ _); (case side2 => exact Nat.le_refl _); (case side3 => exact Kd.C_nil _ _); (case side4 => exact Nat.le_refl _); (case side5 => refine (Kd.R_reads' (e := 64) (base := w.heap.size) (ok := fun k_ => True) (n := y136.length) (c := co19) ?_).2.2; exact (by (with_reducible repeat (first | apply Kd.R_alloc | apply Kd.R_drewN | apply Kd.R_drew)); exact (Kd.R_mono (Kd.R_far (p := ⟨gb139, 3, none⟩) (Kd.R_far (p := ⟨gb139, 2, none⟩) (Kd.R_far (p := ⟨gb139, 1, none⟩) (Kd.R_far (p := ⟨gb139, 0, none⟩) (Kd.R_types HO138.out BK139.out (by decide)) (fun _ hk => hk.2) (.int .i64 0)) (fun _ hk => hk.2) (.slice none 0 0)) (fun _ hk => hk.2) (.slice none 0 0)) (fun _ hk => hk.2) (.slice Ao19 y136.length co19)) (fun _ h_ => h_.1)))); (case side6 => exact (Kd.R_reads' HO138.out).2.1); rintro e w22 ⟨rfl, hb⟩; refine ⟨_, rfl, ?_⟩; have n0_ := Aside0.mk (Kd.R_below (by (with_reducible repeat (first | apply Kd.R_alloc | apply Kd.R_drewN | apply Kd.R_drew)); exact (Kd.R_mono (Kd.R_far (p := ⟨gb139, 3, none⟩) (Kd.R_far (p := ⟨gb139, 2, none⟩) (Kd.R_far (p := ⟨gb139, 1, none⟩) (Kd.R_far (p := ⟨gb139, 0, none⟩) (Kd.R_types HO138.out BK139.out (by decide)) (fun _ hk => hk.2) (.int .i64 0)) (fun _ hk => hk.2) (.slice none 0 0)) (fun _ hk => hk.2) (.slice none 0 0)) (fun _ hk => hk.2) (.slice Ao19 y136.length co19)) (fun _ h_ => h_.1))) hb); have n1_ := Aside0.mk (blk_below (g := gb139) (o := .cells #[.int .i64 0, .slice none 0 0, .slice none 0 0, .slice Ao19 y136.length co19] 26 (0, 0)) (by (with_reducible repeat (first | refine qN ?_ _ | refine qD ?_ | refine qA ?_ _)); refine blk_put (cs := #[.int .i64 0, .slice none 0 0, .slice none 0 0, .slice none 0 0]) ?_ 3 _ rfl; (with_reducible repeat (first | refine qN ?_ _ | refine qD ?_ | refine qA ?_ _)); refine blk_put (cs := #[.int .i64 0, .slice none 0 0, .slice none 0 0, .slice none 0 0]) ?_ 2 _ rfl; (with_reducible repeat (first | refine qN ?_ _ | refine qD ?_ | refine qA ?_ _)); refine blk_put (cs := #[.int .i64 0, .slice none 0 0, .slice none 0 0, .slice none 0 0]) ?_ 1 _ rfl; (with_reducible repeat (first | refine qN ?_ _ | refine qD ?_ | refine qA ?_ _)); refine blk_put (cs := #[.int .i64 0, .slice none 0 0, .slice none 0 0, .slice none 0 0]) ?_ 0 _ rfl; (with_reducible repeat (first | refine qN ?_ _ | refine qD ?_ | refine qA ?_ _)); exact BK139.out) hb); have n2_ := Aside0.mk (below_step (by repeat (first | (with_reducible first | exact HB.out | apply pA | apply pN | apply pD | refine pS ?_ GE139.out) | exact HB.out)) hb); clear HO138; clear BK139; clear HB; have HO138 := n0_; have BK139 := n1_; have HB := n2_; clear n0_ n1_ n2_; (try clear hb); (try clear hb2); (try clear hk); (try clear hi); have hcz23_0 : w22.cell? ⟨gb139, 0, none⟩ = some (.int .i64 0) := (blk_cell BK139.out 0).trans rfl; have hcz23_1 : w22.cell? ⟨gb139, 1, none⟩ = some (.slice none 0 0) := (blk_cell BK139.out 1).trans rfl; have hcz23_2 : w22.cell? ⟨gb139, 2, none⟩ = some (.slice none 0 0) := (blk_cell BK139.out 2).trans rfl; have hcz23_3 : w22.cell? ⟨gb139, 3, none⟩ = some (.slice Ao19 y136.length co19) := (blk_cell BK139.out 3).trans rfl; have hfz23_0 := blk_frozen BK139.out 0; have hfz23_1 := blk_frozen BK139.out 1; have hfz23_2 := blk_frozen BK139.out 2; have hfz23_3 := blk_frozen BK139.out 3) | ((with_reducible refine gate_callee (f := 11) rfl ?_); refine goesL_ (some 18) rfl rfl Try.func11 (by kernel_rfl) rfl #[.agg #[.int .i64 0, .slice none 0 0, .slice none 0 0, .slice Ao19 y136.length co19], .string (⟨#[117]⟩ : ByteArray), .bool true, .bool true, .int .i64 27] rfl (by (try simp only [List.map_toArray, List.map_cons, List.map_nil]); first | done | rfl | (simp only [List.length_drop, List.length_take]; rfl)) ?_; (refine (gate_Verdict.calls k 0 _ _ ([] : List (S76)) _ _ ([] : List (S72)) _ _ y136 (⟨#[117]⟩ : ByteArray) true true 27 true t143 _ ?side1 ?side2 ?side3 ?side4 ?side5 ?side6 A2.out).mono ?_); (case side1 => exact Kd.C_nil _ _); (case side2 => exact Nat.le_refl _); (case side3 => exact Kd.C_nil _ _); (case side4 => exact Nat.le_refl _); (case side5 => repeat (first | exact (Kd.R_reads' HO138.out).2.2 | (with_reducible refine Kd.C_alloc ?_ _) | (with_reducible refine Kd.C_drewN ?_ _) | (with_reducible refine Kd.C_drew ?_))); (case side6 => exact (Kd.R_reads' HO138.out).2.1); rintro e w24 ⟨v144, rfl, ho0, hb⟩; refine ⟨_, rfl, ?_⟩; have n0_ := Aside0.mk (Kd.R_below (by (with_reducible repeat (first | apply Kd.R_alloc | apply Kd.R_drewN | apply Kd.R_drew)); exact HO138.out) hb); have n1_ := Aside0.mk (Kd.V_lower (Kd.V_mono (ok' := fun k_ => some k_ ≠ (.slice Ao19 y136.length co19 : Value).ownBlock ∧ k_ ≠ gb139) ho0 (fun k_ hk_ => ⟨(Kd.fresh' (Kd.R_lt (by (with_reducible repeat (first | apply Kd.R_alloc | apply Kd.R_drewN | apply Kd.R_drew)); exact HO138.out)) k_ hk_), (Kd.freshB (g := gb139) (o := .cells #[.int .i64 0, .slice none 0 0, .slice none 0 0, .slice Ao19 y136.length co19] 26 (0, 0)) (by (with_reducible repeat (first | refine qN ?_ _ | refine qD ?_ | refine qA ?_ _)); exact BK139.out) k_ hk_)⟩)) (below_size (by repeat (first | (with_reducible first | exact HB.out | apply pA | apply pN | apply pD | refine pS ?_ GE139.out) | exact HB.out)))); have n2_ := Aside0.mk (blk_below (g := gb139) (o := .cells #[.int .i64 0, .slice none 0 0, .slice none 0 0, .slice Ao19 y136.length co19] 26 (0, 0)) (by (with_reducible repeat (first | refine qN ?_ _ | refine qD ?_ | refine qA ?_ _)); exact BK139.out) hb); have n3_ := Aside0.mk (below_step (by repeat (first | (with_reducible first | exact HB.out | apply pA | apply pN | apply pD | refine pS ?_ GE139.out) | exact HB.out)) hb); clear HO138; clear BK139; clear HB; have HO138 := n0_; have HO145 := n1_; have BK139 := n2_; have HB := n3_; clear n0_ n1_ n2_ n3_; (try clear hb); (try clear hb2); (try clear hk); (try clear hi); (try clear ho0); have hcz25_0 : w24.cell? ⟨gb139, 0, none⟩ = some (.int .i64 0) := (blk_cell BK139.out 0).trans rfl; have hcz25_1 : w24.cell? ⟨gb139, 1, none⟩ = some (.slice none 0 0) := (blk_cell BK139.out 1).trans rfl; have hcz25_2 : w24.cell? ⟨gb139, 2, none⟩ = some (.slice none 0 0) := (blk_cell BK139.out 2).trans rfl; have hcz25_3 : w24.cell? ⟨gb139, 3, none⟩ = some (.slice Ao19 y136.length co19) := (blk_cell BK139.out 3).trans rfl; have hfz25_0 := blk_frozen BK139.out 0; have hfz25_1 := blk_frozen BK139.out 1; have hfz25_2 := blk_frozen BK139.out 2; have hfz25_3 := blk_frozen BK139.out 3) | ((with_reducible refine gate_callee (f := 11) rfl ?_); refine goesL_ (some 23) rfl rfl Try.func11 (by kernel_rfl) rfl #[.agg #[.int .i64 0, .slice none 0 0, .slice none 0 0, .slice Ao19 y136.length co19], .string (⟨#[117]⟩ : ByteArray), .bool true, .bool true, .int .i64 26] rfl (by (try simp only [List.map_toArray, List.map_cons, List.map_nil]); first | done | rfl | (simp only [List.length_drop, List.length_take]; rfl)) ?_; (refine (gate_Verdict.calls k 0 _ _ ([] : List (S76)) _ _ ([] : List (S72)) _ _ y136 (⟨#[117]⟩ : ByteArray) true true 26 false t147 _ ?side1 ?side2 ?side3 ?side4 ?side5 ?side6 A3.out).mono ?_); (case side1 => exact Kd.C_nil _ _); (case side2 => exact Nat.le_refl _); (case side3 => exact Kd.C_nil _ _); (case side4 => exact Nat.le_refl _); (case side5 => repeat (first | exact (Kd.R_reads' HO138.out).2.2 | (with_reducible refine Kd.C_alloc ?_ _) | (with_reducible refine Kd.C_drewN ?_ _) | (with_reducible refine Kd.C_drew ?_))); (case side6 => exact (Kd.R_reads' HO138.out).2.1); rintro e w26 ⟨v148, rfl, ho0, hb⟩; refine ⟨_, rfl, ?_⟩; have n0_ := Aside0.mk (Kd.R_below (by (with_reducible repeat (first | apply Kd.R_alloc | apply Kd.R_drewN | apply Kd.R_drew)); exact HO138.out) hb); have n1_ := Aside0.mk (Kd.V_below (by (with_reducible repeat (first | apply Kd.V_alloc | apply Kd.V_drewN | apply Kd.V_drew)); exact HO145.out) hb); have n2_ := Aside0.mk (Kd.V_lower (Kd.V_mono (ok' := fun k_ => some k_ ≠ (.slice Ao19 y136.length co19 : Value).ownBlock ∧ k_ ≠ gb139) ho0 (fun k_ hk_ => ⟨(Kd.fresh' (Kd.R_lt (by (with_reducible repeat (first | apply Kd.R_alloc | apply Kd.R_drewN | apply Kd.R_drew)); exact HO138.out)) k_ hk_), (Kd.freshB (g := gb139) (o := .cells #[.int .i64 0, .slice none 0 0, .slice none 0 0, .slice Ao19 y136.length co19] 26 (0, 0)) (by (with_reducible repeat (first | refine qN ?_ _ | refine qD ?_ | refine qA ?_ _)); exact BK139.out) k_ hk_)⟩)) (below_size (by repeat (first | (with_reducible first | exact HB.out | apply pA | apply pN | apply pD | refine pS ?_ GE139.out) | exact HB.out)))); have n3_ := Aside0.mk (blk_below (g := gb139) (o := .cells #[.int .i64 0, .slice none 0 0, .slice none 0 0, .slice Ao19 y136.length co19] 26 (0, 0)) (by (with_reducible repeat (first | refine qN ?_ _ | refine qD ?_ | refine qA ?_ _)); exact BK139.out) hb); have n4_ := Aside0.mk (below_step (by repeat (first | (with_reducible first | exact HB.out | apply pA | apply pN | apply pD | refine pS ?_ GE139.out) | exact HB.out)) hb); clear HO138; clear HO145; clear BK139; clear HB; have HO138 := n0_; have HO145 := n1_; have HO149 := n2_; have BK139 := n3_; have HB := n4_; clear n0_ n1_ n2_ n3_ n4_; (try clear hb); (try clear hb2); (try clear hk); (try clear hi); (try clear ho0); have hcz27_0 : w26.cell? ⟨gb139, 0, none⟩ = some (.int .i64 0) := (blk_cell BK139.out 0).trans rfl; have hcz27_1 : w26.cell? ⟨gb139, 1, none⟩ = some (.slice none 0 0) := (blk_cell BK139.out 1).trans rfl; have hcz27_2 : w26.cell? ⟨gb139, 2, none⟩ = some (.slice none 0 0) := (blk_cell BK139.out 2).trans rfl; have hcz27_3 : w26.cell? ⟨gb139, 3, none⟩ = some (.slice Ao19 y136.length co19) := (blk_cell BK139.out 3).trans rfl; have hfz27_0 := blk_frozen BK139.out 0; have hfz27_1 := blk_frozen BK139.out 1; have hfz27_2 := blk_frozen BK139.out 2; have hfz27_3 := blk_frozen BK139.out 3) | ((with_reducible refine gate_callee (f := 15) rfl ?_); refine goesL_ (some 27) rfl rfl Try.func15 (by kernel_rfl) rfl #[.agg #[.int .i64 0, .slice none 0 0, .slice none 0 0, .slice Ao19 y136.length co19], .string (⟨#[117]⟩ : ByteArray)] rfl (by (try simp only [List.map_toArray, List.map_cons, List.map_nil]); first | done | rfl | (simp only [List.length_drop, List.length_take]; rfl)) ?_; (refine (gate_Until.calls 0 _ _ ([] : List (S76)) _ _ ([] : List (S72)) _ _ y136 (⟨#[117]⟩ : ByteArray) t150 _ ?side1 ?side2 ?side3 ?side4 ?side5 ?side6 A4.out).mono ?_); (case side1 => exact Kd.C_nil _ _); (case side2 => exact Nat.le_refl _); (case side3 => exact Kd.C_nil _ _); (case side4 => exact Nat.le_refl _); (case side5 => repeat (first | exact (Kd.R_reads' HO138.out).2.2 | (with_reducible refine Kd.C_alloc ?_ _) | (with_reducible refine Kd.C_drewN ?_ _) | (with_reducible refine Kd.C_drew ?_))); (case side6 => exact (Kd.R_reads' HO138.out).2.1); rintro e w28 ⟨rfl, hb⟩; refine ⟨_, rfl, ?_⟩; have n0_ := Aside0.mk (Kd.R_below (by (with_reducible repeat (first | apply Kd.R_alloc | apply Kd.R_drewN | apply Kd.R_drew)); exact HO138.out) hb); have n1_ := Aside0.mk (Kd.V_below (by (with_reducible repeat (first | apply Kd.V_alloc | apply Kd.V_drewN | apply Kd.V_drew)); exact HO145.out) hb); have n2_ := Aside0.mk (Kd.V_below (by (with_reducible repeat (first | apply Kd.V_alloc | apply Kd.V_drewN | apply Kd.V_drew)); exact HO149.out) hb); have n3_ := Aside0.mk (blk_below (g := gb139) (o := .cells #[.int .i64 0, .slice none 0 0, .slice none 0 0, .slice Ao19 y136.length co19] 26 (0, 0)) (by (with_reducible repeat (first | refine qN ?_ _ | refine qD ?_ | refine qA ?_ _)); exact BK139.out) hb); have n4_ := Aside0.mk (below_step (by repeat (first | (with_reducible first | exact HB.out | apply pA | apply pN | apply pD | refine pS ?_ GE139.out) | exact HB.out)) hb); clear HO138; clear HO145; clear HO149; clear BK139; clear HB; have HO138 := n0_; have HO145 := n1_; have HO149 := n2_; have BK139 := n3_; have HB := n4_; clear n0_ n1_ n2_ n3_ n4_; (try clear hb); (try clear hb2); (try clear hk); (try clear hi); have hcz29_0 : w28.cell? ⟨gb139, 0, none⟩ = some (.int .i64 0) := (blk_cell BK139.out 0).trans rfl; have hcz29_1 : w28.cell? ⟨gb139, 1, none⟩ = some (.slice none 0 0) := (blk_cell BK139.out 1).trans rfl; have hcz29_2 : w28.cell? ⟨gb139, 2, none⟩ = some (.slice none 0 0) := (blk_cell BK139.out 2).trans rfl; have hcz29_3 : w28.cell? ⟨gb139, 3, none⟩ = some (.slice Ao19 y136.length co19) := (blk_cell BK139.out 3).trans rfl; have hfz29_0 := blk_frozen BK139.out 0; have hfz29_1 := blk_frozen BK139.out 1; have hfz29_2 := blk_frozen BK139.out 2; have hfz29_3 := blk_frozen BK139.out 3) | (go_at_call 13; (refine calls_of_args (args' := #[.agg #[.int .i64 0, .slice none ([] : List S76).length 0, .slice none ([] : List S72).length 0, .slice Ao19 y136.length co19], .string (⟨#[117]⟩ : ByteArray), .int .i64 26]) (by rfl) ?_); (with_reducible refine (gate_Locked.calls 0 _ _ ([] : List (S76)) _ _ ([] : List (S72)) _ _ y136 (⟨#[117]⟩ : ByteArray) 26 true _ ?side1 ?side2 ?side3 ?side4 ?side5 ?side6 A6.out).mono ?_); (case side1 => exact Kd.C_nil _ _); (case side2 => exact Nat.le_refl _); (case side3 => exact Kd.C_nil _ _); (case side4 => exact Nat.le_refl _); (case side5 => repeat (first | exact (Kd.R_reads' HO138.out).2.2 | (with_reducible refine Kd.C_alloc ?_ _) | (with_reducible refine Kd.C_drewN ?_ _) | (with_reducible refine Kd.C_drew ?_))); (case side6 => exact (Kd.R_reads' HO138.out).2.1); rintro e w30 ⟨rfl, hb⟩; have n0_ := Aside0.mk (Kd.R_below (by (with_reducible repeat (first | apply Kd.R_alloc | apply Kd.R_drewN | apply Kd.R_drew)); exact HO138.out) hb); have n1_ := Aside0.mk (Kd.V_below (by (with_reducible repeat (first | apply Kd.V_alloc | apply Kd.V_drewN | apply Kd.V_drew)); exact HO145.out) hb); have n2_ := Aside0.mk (Kd.V_below (by (with_reducible repeat (first | apply Kd.V_alloc | apply Kd.V_drewN | apply Kd.V_drew)); exact HO149.out) hb); have n3_ := Aside0.mk (blk_below (g := gb139) (o := .cells #[.int .i64 0, .slice none 0 0, .slice none 0 0, .slice Ao19 y136.length co19] 26 (0, 0)) (by (with_reducible repeat (first | refine qN ?_ _ | refine qD ?_ | refine qA ?_ _)); exact BK139.out) hb); have n4_ := Aside0.mk (below_step (by repeat (first | (with_reducible first | exact HB.out | apply pA | apply pN | apply pD | refine pS ?_ GE139.out) | exact HB.out)) hb); clear HO138; clear HO145; clear HO149; clear BK139; clear HB; have HO138 := n0_; have HO145 := n1_; have HO149 := n2_; have BK139 := n3_; have HB := n4_; clear n0_ n1_ n2_ n3_ n4_; (try clear hb); (try clear hb2); (try clear hk); (try clear hi); have hcz31_0 : w30.cell? ⟨gb139, 0, none⟩ = some (.int .i64 0) := (blk_cell BK139.out 0).trans rfl; have hcz31_1 : w30.cell? ⟨gb139, 1, none⟩ = some (.slice none 0 0) := (blk_cell BK139.out 1).trans rfl; have hcz31_2 : w30.cell? ⟨gb139, 2, none⟩ = some (.slice none 0 0) := (blk_cell BK139.out 2).trans rfl; have hcz31_3 : w30.cell? ⟨gb139, 3, none⟩ = some (.slice Ao19 y136.length co19) := (blk_cell BK139.out 3).trans rfl; have hfz31_0 := blk_frozen BK139.out 0; have hfz31_1 := blk_frozen BK139.out 1; have hfz31_2 := blk_frozen BK139.out 2; have hfz31_3 := blk_frozen BK139.out 3) | (go_at_call 13; (refine calls_of_args (args' := #[.agg #[.int .i64 0, .slice none ([] : List S76).length 0, .slice none ([] : List S72).length 0, .slice Ao19 y136.length co19], .string (⟨#[117]⟩ : ByteArray), .int .i64 27]) (by rfl) ?_); (with_reducible refine (gate_Locked.calls 0 _ _ ([] : List (S76)) _ _ ([] : List (S72)) _ _ y136 (⟨#[117]⟩ : ByteArray) 27 false _ ?side1 ?side2 ?side3 ?side4 ?side5 ?side6 A8.out).mono ?_); (case side1 => exact Kd.C_nil _ _); (case side2 => exact Nat.le_refl _); (case side3 => exact Kd.C_nil _ _); (case side4 => exact Nat.le_refl _); (case side5 => repeat (first | exact (Kd.R_reads' HO138.out).2.2 | (with_reducible refine Kd.C_alloc ?_ _) | (with_reducible refine Kd.C_drewN ?_ _) | (with_reducible refine Kd.C_drew ?_))); (case side6 => exact (Kd.R_reads' HO138.out).2.1); rintro e w32 ⟨rfl, hb⟩; have n0_ := Aside0.mk (Kd.R_below (by (with_reducible repeat (first | apply Kd.R_alloc | apply Kd.R_drewN | apply Kd.R_drew)); exact HO138.out) hb); have n1_ := Aside0.mk (Kd.V_below (by (with_reducible repeat (first | apply Kd.V_alloc | apply Kd.V_drewN | apply Kd.V_drew)); exact HO145.out) hb); have n2_ := Aside0.mk (Kd.V_below (by (with_reducible repeat (first | apply Kd.V_alloc | apply Kd.V_drewN | apply Kd.V_drew)); exact HO149.out) hb); have n3_ := Aside0.mk (blk_below (g := gb139) (o := .cells #[.int .i64 0, .slice none 0 0, .slice none 0 0, .slice Ao19 y136.length co19] 26 (0, 0)) (by (with_reducible repeat (first | refine qN ?_ _ | refine qD ?_ | refine qA ?_ _)); exact BK139.out) hb); have n4_ := Aside0.mk (below_step (by repeat (first | (with_reducible first | exact HB.out | apply pA | apply pN | apply pD | refine pS ?_ GE139.out) | exact HB.out)) hb); clear HO138; clear HO145; clear HO149; clear BK139; clear HB; have HO138 := n0_; have HO145 := n1_; have HO149 := n2_; have BK139 := n3_; have HB := n4_; clear n0_ n1_ n2_ n3_ n4_; (try clear hb); (try clear hb2); (try clear hk); (try clear hi); obtain ⟨Ao33, co33, eo33⟩ := Kd.V_slice HO145.out; subst eo33; have p153 : 0 ≤ (0 : Int) := (by omega); have q153 : 0 < (t143.length : Int) := of_decide_eq_true (by first | (with_reducible assumption) | assumption); obtain ⟨ad153, e153, hx153_0, hx153_1, hx153_2, hx153_3, hx153_4, hx153_5, hx153_6, hx153_7, hx153_8⟩ := at_T41 (Kd.V_reads' HO145.out).2.2 0 p153 q153; cases e153; have qi153 : (0 < t143.length) = True := eq_true (by omega); (try rw [show ((0 : Int)).toNat = 0 from rfl] at hx153_0); (try rw [show 0 * 9 = 0 from rfl] at hx153_0); (try rw [Addr.add_zero'] at hx153_0); (try rw [show ((0 : Int)).toNat = 0 from rfl] at hx153_1); (try rw [show 0 * 9 = 0 from rfl] at hx153_1); (try rw [Addr.add_zero'] at hx153_1); (try rw [show ((0 : Int)).toNat = 0 from rfl] at hx153_2); (try rw [show 0 * 9 = 0 from rfl] at hx153_2); (try rw [Addr.add_zero'] at hx153_2); (try rw [show ((0 : Int)).toNat = 0 from rfl] at hx153_3); (try rw [show 0 * 9 = 0 from rfl] at hx153_3); (try rw [Addr.add_zero'] at hx153_3); (try rw [show ((0 : Int)).toNat = 0 from rfl] at hx153_4); (try rw [show 0 * 9 = 0 from rfl] at hx153_4); (try rw [Addr.add_zero'] at hx153_4); (try rw [show ((0 : Int)).toNat = 0 from rfl] at hx153_5); (try rw [show 0 * 9 = 0 from rfl] at hx153_5); (try rw [Addr.add_zero'] at hx153_5); (try rw [show ((0 : Int)).toNat = 0 from rfl] at hx153_6); (try rw [show 0 * 9 = 0 from rfl] at hx153_6); (try rw [Addr.add_zero'] at hx153_6); (try rw [show ((0 : Int)).toNat = 0 from rfl] at hx153_7); (try rw [show 0 * 9 = 0 from rfl] at hx153_7); (try rw [Addr.add_zero'] at hx153_7); (try rw [show ((0 : Int)).toNat = 0 from rfl] at hx153_8); (try rw [show 0 * 9 = 0 from rfl] at hx153_8); (try rw [Addr.add_zero'] at hx153_8); replace p153 := eq_true p153; replace q153 := eq_true q153; obtain ⟨Ao34, co34, eo34⟩ := Kd.V_slice HO149.out; subst eo34))
                      go_ret
                      exact ⟨by first | rfl | (simp [errW_none, errW_some] <;> rfl) | (simp [*, errW_none, errW_some] <;> rfl), by repeat (first | (with_reducible first | exact HB.out | apply pA | apply pN | apply pD | refine pS ?_ GE139.out) | exact HB.out)⟩
                  · rw [if_neg c15] at H
                    have c15b0 : (((rd_T41 t143 0).f0) == 5) = false := beq_eq_false_iff_ne.mpr c15
                    have c15b1 : (((rd_T41 t143 0).f0) != 5) = true := bne_iff_ne.mpr c15
                    exact absurd ((Option.some.inj H).trans hlaw_.out) (by decide)
                · rw [if_neg c14] at H
                  exact absurd H (by simp)
              · rw [if_neg c13] at H
                have c13b0 : ((t143.length : Int) == 1) = false := beq_eq_false_iff_ne.mpr c13
                have c13b1 : ((t143.length : Int) != 1) = true := bne_iff_ne.mpr c13
                exact absurd ((Option.some.inj H).trans hlaw_.out) (by decide)
            · replace c12 := Bool.eq_false_iff.mpr c12
              subst c12
              have H1 : (some false) = some r := by rw [if_neg (show ¬ (false = true) by decide)] at H; exact H
              clear H
              have H := H1
              clear H1
              exact absurd ((Option.some.inj H).trans hlaw_.out) (by decide)
          · rw [if_neg c11] at H
            have c11b0 : (t141 == 7) = false := beq_eq_false_iff_ne.mpr c11
            have c11b1 : (t141 != 7) = true := bne_iff_ne.mpr c11
            exact absurd ((Option.some.inj H).trans hlaw_.out) (by decide)
        · rw [if_neg c10] at H
          have c10b0 : (t140 == 3) = false := beq_eq_false_iff_ne.mpr c10
          have c10b1 : (t140 != 3) = true := bne_iff_ne.mpr c10
          exact absurd ((Option.some.inj H).trans hlaw_.out) (by decide)
    · replace c7 := Bool.eq_false_iff.mpr c7
      subst c7
      have H1 : (some false) = some r := by rw [if_neg (show ¬ (false = true) by decide)] at H; exact H
      clear H
      have H := H1
      clear H1
      exact absurd ((Option.some.inj H).trans hlaw_.out) (by decide)
  · rw [if_neg c5] at H
    have c5b0 : (t150 == 27) = false := beq_eq_false_iff_ne.mpr c5
    have c5b1 : (t150 != 27) = true := bne_iff_ne.mpr c5
    exact absurd ((Option.some.inj H).trans hlaw_.out) (by decide)

def portreevelaw16_shown.f (k : Nat) : Option Bool := (portreevelaw16_shown_g.f k).bind fun b => if b = true then some true else none
theorem portreevelaw16_shown.mono : ∀ k, LeO (portreevelaw16_shown.f k) (portreevelaw16_shown.f (k + 1)) := fun k => LeO.bind (portreevelaw16_shown_g.mono k) (fun _ => LeO.refl _)
theorem portreevelaw16_shown.calls (k : Nat)  (r : Bool) (w : World) (h : portreevelaw16_shown.f k  = some r) :
    Calls Try.prog 9 #[] w fun e w' => e = .returned (.bool r) ∧ Below w.heap.size w w' := by
  unfold portreevelaw16_shown.f at h
  obtain ⟨b, hb, hc⟩ := Option.bind_eq_some_iff.1 h
  cases b with
  | false => exact absurd hc (by simp)
  | true =>
    rw [if_pos rfl] at hc
    obtain rfl := Option.some.inj hc
    exact portreevelaw16_shown_g.calls k true w (Aside0.mk rfl) hb

/-! ### portreeveref04_Of: function 25 -/
def portreeveref04_Of.l0 : Nat → Int → Int → Int → List (S76) → List (S72) → List (S64) → Option (Int)
  | 0, _, _, _, _, _, _ => none
  | k + 1, x1, x5, x155000, x155001, x155002, x155003 => if x5 < (x155001.length : Int) then (if 0 ≤ x5 then (if ((rd_T76 x155001 x5).f0) = x1 then (some x5) else (portreeveref04_Of.l0 k x1 (wrap64 (x5 + 1)) x155000 x155001 x155002 x155003)) else (none)) else (some (-1))
def portreeveref04_Of.f (k : Nat) (a0_0 : Int) (l0_1 : List (S76)) (l0_2 : List (S72)) (l0_3 : List (S64)) (a1 : Int) : Option (Int) := portreeveref04_Of.l0 k a1 0 a0_0 l0_1 l0_2 l0_3
theorem portreeveref04_Of.mono_l : ∀ k, (∀ y0 y1 y2 y3 y4 y5, LeO (portreeveref04_Of.l0 k y0 y1 y2 y3 y4 y5) (portreeveref04_Of.l0 (k + 1) y0 y1 y2 y3 y4 y5))
  | 0 => fun _ _ _ _ _ _ r h => by simp [portreeveref04_Of.l0] at h
  | k + 1 => by
    have ih0 := portreeveref04_Of.mono_l k
    · intro y0 y1 y2 y3 y4 y5
      unfold portreeveref04_Of.l0
      repeat' first
      | (with_reducible exact ih0 _ _ _ _ _ _)
      | (with_reducible exact LeO.refl _)
      | (with_reducible exact LeO.none _)
      | (with_reducible refine LeO.ite ?_ ?_)
      | (with_reducible refine LeO.bind ?_ (fun _ => ?_))
      | exact ih0 _ _ _ _ _ _
      | exact LeO.none _
      | refine LeO.ite ?_ ?_
      | refine LeO.bind ?_ (fun _ => ?_)
theorem portreeveref04_Of.mono : ∀ a0 a1 a2 a3 a4 k, LeO (portreeveref04_Of.f k a0 a1 a2 a3 a4) (portreeveref04_Of.f (k + 1) a0 a1 a2 a3 a4) := by
  intro a0 a1 a2 a3 a4 k
  have ih0 := portreeveref04_Of.mono_l k
  unfold portreeveref04_Of.f
  repeat' first
      | (with_reducible exact ih0 _ _ _ _ _ _)
      | (with_reducible exact LeO.refl _)
      | (with_reducible exact LeO.none _)
      | (with_reducible refine LeO.ite ?_ ?_)
      | (with_reducible refine LeO.bind ?_ (fun _ => ?_))
      | exact ih0 _ _ _ _ _ _
      | exact LeO.none _
      | refine LeO.ite ?_ ?_
      | refine LeO.bind ?_ (fun _ => ?_)
set_option maxHeartbeats 8000000 in
set_option maxRecDepth 100000 in
theorem portreeveref04_Of.calls (k : Nat) (a0_0 : Int) (A0_1 : Option Addr) (c0_1 : Nat) (l0_1 : List (S76)) (A0_2 : Option Addr) (c0_2 : Nat) (l0_2 : List (S72)) (A0_3 : Option Addr) (c0_3 : Nat) (l0_3 : List (S64)) (a1 : Int) (r : Int) (w : World) (hr0_1 : Kd.C k76 w A0_1 l0_1.length l0_1) (hc0_1 : l0_1.length ≤ c0_1) (hr0_2 : Kd.C k72 w A0_2 l0_2.length l0_2) (hc0_2 : l0_2.length ≤ c0_2) (hr0_3 : Kd.C k64 w A0_3 l0_3.length l0_3) (hc0_3 : l0_3.length ≤ c0_3) (h : portreeveref04_Of.f k a0_0 l0_1 l0_2 l0_3 a1 = some r) :
    Calls Try.prog 25 #[.agg #[.int .i64 a0_0, .slice A0_1 l0_1.length c0_1, .slice A0_2 l0_2.length c0_2, .slice A0_3 l0_3.length c0_3], .int .i64 a1] w fun e w' => e = .returned (.int .i64 r) ∧ Below w.heap.size w w' := by
  have hu26 := Try.underlying26
  have hu76 := Try.underlying76
  have HR0_1 := Aside0.mk hr0_1
  have HC0_1 := Aside0.mk hc0_1
  clear hr0_1 hc0_1
  have HR0_2 := Aside0.mk hr0_2
  have HC0_2 := Aside0.mk hc0_2
  clear hr0_2 hc0_2
  have HR0_3 := Aside0.mk hr0_3
  have HC0_3 := Aside0.mk hc0_3
  clear hr0_3 hc0_3
  have HB := Aside0.mk (Below.refl w.heap.size w)
  have H : (portreeveref04_Of.l0 k a1 0 a0_0 l0_1 l0_2 l0_3) = some r := h
  clear h
  have H' := Aside0.mk H
  clear H
  go_enter Try.func25, Try.ntmps25
  go_wp2_with (first | ((with_reducible refine gate_dst (N := 2) rfl ?_); refine box_event ?hg (N := 2) ?hd (cs := #[.int .i64 a0_0, .slice A0_1 l0_1.length c0_1, .slice A0_2 l0_2.length c0_2, .slice A0_3 l0_3.length c0_3]) (t := 26) ?hr ?_; (case hd => rfl); (case hg => rfl); (case hr => first | (go_simp; done) | (go_simp; rfl)); intro gb154 hg w3 hbox hb; have n0_ := Aside0.mk (below_step (by repeat (first | (with_reducible first | exact HB.out | apply pA | apply pN | apply pD) | exact HB.out)) hb); have n1_ := Aside0.mk (hbox); have n2_ := Aside0.mk ((by rw [hg]; exact (below_size (by repeat (first | (with_reducible first | exact HB.out | apply pA | apply pN | apply pD) | exact HB.out))) : w.heap.size ≤ gb154)); have n3_ := Aside0.mk ((by rw [hg]; exact (below_size (by repeat (first | (with_reducible first | exact HB.out | apply pA | apply pN | apply pD) | exact HB.out))) : w.heap.size ≤ gb154)); clear HB; have HB := n0_; have BK154 := n1_; have GW154 := n2_; have GE154 := n3_; clear n0_ n1_ n2_ n3_; clear hb hbox hg))
  go_loopg [5] k (fun kq v5 w' => ∃ (x5_1 : Int), v5 = .int .i64 x5_1 ∧ Aside0 (portreeveref04_Of.l0 kq a1 x5_1 a0_0 l0_1 l0_2 l0_3 = some r) ∧ Aside0 (kq ≤ k) ∧ Aside0 (w'.heap[gb154]? = some (.cells #[.int .i64 a0_0, (.slice A0_1 l0_1.length c0_1), (.slice A0_2 l0_2.length c0_2), (.slice A0_3 l0_3.length c0_3)] 26 (0, 0))) ∧ Aside0 (Below w.heap.size w w'))
  case atStart => exact ⟨(0), (by first | rfl | (simp; done) | (simp [*]; done)), H', ⟨Nat.le_refl _⟩, ⟨by (with_reducible repeat (first | refine qN ?_ _ | refine qD ?_ | refine qA ?_ _)); exact BK154.out⟩, ⟨by repeat (first | (with_reducible first | exact HB.out | apply pA | apply pN | apply pD | refine pS ?_ GE154.out) | exact HB.out)⟩⟩
  case round =>
    clear H'
    try clear c2
    try clear p2
    obtain ⟨x5_1, rfl, HA, HK1, BK154, HB⟩ := hrel
    cases gk with
    | zero => exact absurd HA.out (by simp [portreeveref04_Of.l0])
    | succ k1 =>
      have H := HA.out
      clear HA
      simp only [portreeveref04_Of.l0] at H
      by_cases c4 : x5_1 < (l0_1.length : Int)
      · rw [if_pos c4] at H
        have c4b0 : decide (x5_1 < (l0_1.length : Int)) = true := decide_eq_true c4
        clear c4
        by_cases c5 : 0 ≤ x5_1
        · rw [if_pos c5] at H
          have c5b0 : decide (0 ≤ x5_1) = true := decide_eq_true c5
          clear c5
          by_cases c6 : ((rd_T76 l0_1 x5_1).f0) = a1
          · rw [if_pos c6] at H
            have c6b0 : (((rd_T76 l0_1 x5_1).f0) == a1) = true := beq_iff_eq.mpr c6
            have c6b1 : (((rd_T76 l0_1 x5_1).f0) != a1) = false := bne_eq_false_iff_eq.mpr c6
            clear c6
            obtain rfl := Option.some.inj H
            have hcz7_0 : wr.cell? ⟨gb154, 0, none⟩ = some (.int .i64 a0_0) := (blk_cell BK154.out 0).trans rfl
            have hcz7_1 : wr.cell? ⟨gb154, 1, none⟩ = some (.slice A0_1 l0_1.length c0_1) := (blk_cell BK154.out 1).trans rfl
            have hcz7_2 : wr.cell? ⟨gb154, 2, none⟩ = some (.slice A0_2 l0_2.length c0_2) := (blk_cell BK154.out 2).trans rfl
            have hcz7_3 : wr.cell? ⟨gb154, 3, none⟩ = some (.slice A0_3 l0_3.length c0_3) := (blk_cell BK154.out 3).trans rfl
            have hfz7_0 := blk_frozen BK154.out 0
            have hfz7_1 := blk_frozen BK154.out 1
            have hfz7_2 := blk_frozen BK154.out 2
            have hfz7_3 := blk_frozen BK154.out 3
            have p155 : 0 ≤ (x5_1 : Int) := of_decide_eq_true (by first | (with_reducible assumption) | assumption)
            have q155 : x5_1 < (l0_1.length : Int) := of_decide_eq_true (by first | (with_reducible assumption) | assumption)
            obtain ⟨ad155, e155, hx155_0, hx155_1, hx155_2, hx155_3, hx155_4, hx155_5⟩ := at_T76 HR0_1.out x5_1 p155 q155
            cases e155
            replace hx155_0 := (HB.out.cell (World.block_lt_of_cell? w _ hx155_0)).trans hx155_0
            replace hx155_1 := (HB.out.cell (World.block_lt_of_cell? w _ hx155_1)).trans hx155_1
            replace hx155_2 := (HB.out.cell (World.block_lt_of_cell? w _ hx155_2)).trans hx155_2
            replace hx155_3 := (HB.out.cell (World.block_lt_of_cell? w _ hx155_3)).trans hx155_3
            replace hx155_4 := (HB.out.cell (World.block_lt_of_cell? w _ hx155_4)).trans hx155_4
            replace hx155_5 := (HB.out.cell (World.block_lt_of_cell? w _ hx155_5)).trans hx155_5
            replace p155 := eq_true p155
            replace q155 := eq_true q155
            go_wp2
            go_ret
            exact ⟨by first | rfl | (simp [errW_none, errW_some] <;> rfl) | (simp [*, errW_none, errW_some] <;> rfl), by repeat (first | (with_reducible first | exact HB.out | apply pA | apply pN | apply pD | refine pS ?_ GE154.out) | exact HB.out)⟩
          · rw [if_neg c6] at H
            have c6b0 : (((rd_T76 l0_1 x5_1).f0) == a1) = false := beq_eq_false_iff_ne.mpr c6
            have c6b1 : (((rd_T76 l0_1 x5_1).f0) != a1) = true := bne_iff_ne.mpr c6
            have H' := Aside0.mk H
            clear H
            have hcz8_0 : wr.cell? ⟨gb154, 0, none⟩ = some (.int .i64 a0_0) := (blk_cell BK154.out 0).trans rfl
            have hcz8_1 : wr.cell? ⟨gb154, 1, none⟩ = some (.slice A0_1 l0_1.length c0_1) := (blk_cell BK154.out 1).trans rfl
            have hcz8_2 : wr.cell? ⟨gb154, 2, none⟩ = some (.slice A0_2 l0_2.length c0_2) := (blk_cell BK154.out 2).trans rfl
            have hcz8_3 : wr.cell? ⟨gb154, 3, none⟩ = some (.slice A0_3 l0_3.length c0_3) := (blk_cell BK154.out 3).trans rfl
            have hfz8_0 := blk_frozen BK154.out 0
            have hfz8_1 := blk_frozen BK154.out 1
            have hfz8_2 := blk_frozen BK154.out 2
            have hfz8_3 := blk_frozen BK154.out 3
            have p155 : 0 ≤ (x5_1 : Int) := of_decide_eq_true (by first | (with_reducible assumption) | assumption)
            have q155 : x5_1 < (l0_1.length : Int) := of_decide_eq_true (by first | (with_reducible assumption) | assumption)
            obtain ⟨ad155, e155, hx155_0, hx155_1, hx155_2, hx155_3, hx155_4, hx155_5⟩ := at_T76 HR0_1.out x5_1 p155 q155
            cases e155
            replace hx155_0 := (HB.out.cell (World.block_lt_of_cell? w _ hx155_0)).trans hx155_0
            replace hx155_1 := (HB.out.cell (World.block_lt_of_cell? w _ hx155_1)).trans hx155_1
            replace hx155_2 := (HB.out.cell (World.block_lt_of_cell? w _ hx155_2)).trans hx155_2
            replace hx155_3 := (HB.out.cell (World.block_lt_of_cell? w _ hx155_3)).trans hx155_3
            replace hx155_4 := (HB.out.cell (World.block_lt_of_cell? w _ hx155_4)).trans hx155_4
            replace hx155_5 := (HB.out.cell (World.block_lt_of_cell? w _ hx155_5)).trans hx155_5
            replace p155 := eq_true p155
            replace q155 := eq_true q155
            go_wp2
            go_roundg k1
            case measure => have := HK1.out; omega
            case rel => exact ⟨(wrap64 (x5_1 + 1)), (by first | rfl | (simp; done) | (simp [*]; done)), H', ⟨by have := HK1.out; omega⟩, ⟨by (with_reducible repeat (first | refine qN ?_ _ | refine qD ?_ | refine qA ?_ _)); exact BK154.out⟩, ⟨by repeat (first | (with_reducible first | exact HB.out | apply pA | apply pN | apply pD | refine pS ?_ GE154.out) | exact HB.out)⟩⟩
        · rw [if_neg c5] at H
          exact absurd H (by simp)
      · rw [if_neg c4] at H
        have c4b0 : decide (x5_1 < (l0_1.length : Int)) = false := decide_eq_false c4
        clear c4
        obtain rfl := Option.some.inj H
        have hcz9_0 : wr.cell? ⟨gb154, 0, none⟩ = some (.int .i64 a0_0) := (blk_cell BK154.out 0).trans rfl
        have hcz9_1 : wr.cell? ⟨gb154, 1, none⟩ = some (.slice A0_1 l0_1.length c0_1) := (blk_cell BK154.out 1).trans rfl
        have hcz9_2 : wr.cell? ⟨gb154, 2, none⟩ = some (.slice A0_2 l0_2.length c0_2) := (blk_cell BK154.out 2).trans rfl
        have hcz9_3 : wr.cell? ⟨gb154, 3, none⟩ = some (.slice A0_3 l0_3.length c0_3) := (blk_cell BK154.out 3).trans rfl
        have hfz9_0 := blk_frozen BK154.out 0
        have hfz9_1 := blk_frozen BK154.out 1
        have hfz9_2 := blk_frozen BK154.out 2
        have hfz9_3 := blk_frozen BK154.out 3
        go_wp2
        go_ret
        exact ⟨by first | rfl | (simp [errW_none, errW_some] <;> rfl) | (simp [*, errW_none, errW_some] <;> rfl), by repeat (first | (with_reducible first | exact HB.out | apply pA | apply pN | apply pD | refine pS ?_ GE154.out) | exact HB.out)⟩

/-! ### portreeveref04_name: function 29 -/
def portreeveref04_name.f (a0 : ByteArray) : Option (Bool) := if (a0.size : Int) ≥ 1 then (some (decide ((a0.size : Int) ≤ 16))) else (some false)
set_option maxHeartbeats 8000000 in
set_option maxRecDepth 100000 in
theorem portreeveref04_name.calls (a0 : ByteArray) (r : Bool) (w : World) (h : portreeveref04_name.f a0 = some r) :
    Calls Try.prog 29 #[.string a0] w fun e w' => e = .returned (.bool r) ∧ Drawn0 w w' := by
  have H : (if (a0.size : Int) ≥ 1 then (some (decide ((a0.size : Int) ≤ 16))) else (some false)) = some r := h
  clear h
  by_cases c2 : (a0.size : Int) ≥ 1
  · rw [if_pos c2] at H
    have c2b0 : decide (1 ≤ (a0.size : Int)) = true := decide_eq_true c2
    have c2b1 : decide (1 ≤ a0.size) = true := decide_eq_true (by omega)
    clear c2
    obtain rfl := Option.some.inj H
    go_enter Try.func29, Try.ntmps29
    go_wp2
    go_ret
    exact ⟨by first | rfl | (simp; done) | (simp [*]; done), by repeat (first | exact Drawn0.refl _ | apply Drawn0.step)⟩
  · rw [if_neg c2] at H
    have c2b0 : decide (1 ≤ (a0.size : Int)) = false := decide_eq_false c2
    have c2b1 : decide (1 ≤ a0.size) = false := decide_eq_false (by omega)
    clear c2
    obtain rfl := Option.some.inj H
    go_enter Try.func29, Try.ntmps29
    go_wp2
    go_ret
    exact ⟨by first | rfl | (simp; done) | (simp [*]; done), by repeat (first | exact Drawn0.refl _ | apply Drawn0.step)⟩

/-! ### portreeveref04_pool: function 35 -/
def portreeveref04_pool.f (a0 : Int) : Option (Bool) := if a0 ≥ 167772161 then (some (decide (a0 ≤ 167772166))) else (some false)
set_option maxHeartbeats 8000000 in
set_option maxRecDepth 100000 in
theorem portreeveref04_pool.calls (a0 : Int) (r : Bool) (w : World) (h : portreeveref04_pool.f a0 = some r) :
    Calls Try.prog 35 #[.int .u32 a0] w fun e w' => e = .returned (.bool r) ∧ Drawn0 w w' := by
  have H : (if a0 ≥ 167772161 then (some (decide (a0 ≤ 167772166))) else (some false)) = some r := h
  clear h
  by_cases c2 : a0 ≥ 167772161
  · rw [if_pos c2] at H
    have c2b0 : decide (167772161 ≤ a0) = true := decide_eq_true c2
    clear c2
    obtain rfl := Option.some.inj H
    go_enter Try.func35, Try.ntmps35
    go_wp2
    go_ret
    exact ⟨by first | rfl | (simp; done) | (simp [*]; done), by repeat (first | exact Drawn0.refl _ | apply Drawn0.step)⟩
  · rw [if_neg c2] at H
    have c2b0 : decide (167772161 ≤ a0) = false := decide_eq_false c2
    clear c2
    obtain rfl := Option.some.inj H
    go_enter Try.func35, Try.ntmps35
    go_wp2
    go_ret
    exact ⟨by first | rfl | (simp; done) | (simp [*]; done), by repeat (first | exact Drawn0.refl _ | apply Drawn0.step)⟩

end Go.Proofs.Ytocjadhpaecpaaa.Q

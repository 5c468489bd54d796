-- written by this session's own program (wip/tools/myprint.py), over the kit's print
import Derived.Test.YtgijfaecplodfaaQx0
import Derived.Test.YtgijfaecplodfaaQx1
import Derived.Test.YtgijfaecplodfaaQx4
import Derived.Test.YtgijfaecplodfaaQx5
namespace Go.Proofs.Ytgijfaecplodfaa.Q
open Go.RowKit Go.Proofs.YtgijfaecplodfaaW.PrintWords Go.Proofs.YtgijfaecplodfaaW.PrintLast Go.Proofs.YtgijfaecplodfaaW.PrintMore
open Go.Proofs.YtgijfaecplodfaaV
attribute [local go_sem] max2_int min2_int max_two min_two max_three min_three max_four min_four   -- for this text's walks alone
set_option linter.unusedVariables false
set_option linter.unusedSimpArgs false

/-! ### portreevelaw09_PackBack: function 4 -/
mutual
def portreevelaw09_PackBack.j0 : Nat → List Int → List Int → Bool → Bool → Int → Int → List Int → Option (Bool)
  | 0, _, _, _, _, _, _, _ => none
  | k + 1, x1, x2, x7, x30, x226000, x226001, x226002 => if x30 = true then (some x7) else ((pack_Bytes.f x226000 x226001 x226002).bind fun bt227 => (if bt227.2 = 0 then ((some (([] : List Int) : List Int)).bind fun y231 => (if y231.length + bt227.1.length < 140737488355328 then ((some (y231 ++ bt227.1 : List Int)).bind fun y234 => (if y234.length + x1.length < 140737488355328 then ((pack_Read.f k (y234 ++ x1)).bind fun bt240 => (if bt240.2.2.2 = 0 then ((portreeveref09_Same.f k x226000 x226001 x226002 bt240.1 bt240.2.1 bt240.2.2.1).bind fun t247 => (if t247 = true then (portreevelaw09_PackBack.j1 k x2 x7 bt227.2 ((bt227.1.length : Int) != (wrap64 (4 + (x226002.length : Int)))) x226000 x226001 x226002) else (portreevelaw09_PackBack.j1 k x2 x7 bt227.2 true x226000 x226001 x226002))) else (portreevelaw09_PackBack.j1 k x2 x7 bt227.2 true x226000 x226001 x226002))) else (none))) else (none))) else (portreevelaw09_PackBack.j2 k x2 x7 bt227.2 x226000 x226001 x226002)))
def portreevelaw09_PackBack.j2 : Nat → List Int → Bool → Int → Int → Int → List Int → Option (Bool)
  | 0, _, _, _, _, _, _ => none
  | k + 1, x2, x7, x9, x226000, x226001, x226002 => (pack_Read.f k x2).bind fun bt248 => (if bt248.2.2.2 = 0 then ((pack_Bytes.f bt248.1 bt248.2.1 bt248.2.2.1).bind fun bt256 => (if x7 = true then (if bt256.2 = 0 then (if (bt256.1.length : Int) ≤ (x2.length : Int) then (if 0 ≤ (bt256.1.length : Int) then ((portreeveref01_Row.f k bt256.1 (x2.take ((bt256.1.length : Int) : Int).toNat)).bind fun t261 => (some t261)) else (none)) else (some false)) else (some false)) else (some false))) else (if x7 = true then (if bt248.2.2.2 = 2 then ((portreeveref09_Same.f k bt248.1 bt248.2.1 bt248.2.2.1 0 0 ([] : List Int)).bind fun t255 => (if t255 = true then (some ((x9 == 0) == (decide ((x226002.length : Int) ≤ 1496)))) else (some false))) else (some false)) else (some false)))
def portreevelaw09_PackBack.j1 : Nat → List Int → Bool → Int → Bool → Int → Int → List Int → Option (Bool)
  | 0, _, _, _, _, _, _, _ => none
  | k + 1, x2, x7, x9, x64, x226000, x226001, x226002 => if x64 = true then (some false) else (portreevelaw09_PackBack.j2 k x2 x7 x9 x226000 x226001 x226002)
end
def portreevelaw09_PackBack.f (k : Nat) (a0_0 : Int) (a0_1 : Int) (l0_2 : List Int) (l1 : List Int) (l2 : List Int) : Option (Bool) := (portreevelaw09_shown.f k).bind fun t226 => (if (l0_2.length : Int) > 2000 then (portreevelaw09_PackBack.j0 k l1 l2 t226 true a0_0 a0_1 l0_2) else (if (l1.length : Int) > 300 then (portreevelaw09_PackBack.j0 k l1 l2 t226 true a0_0 a0_1 l0_2) else (portreevelaw09_PackBack.j0 k l1 l2 t226 (decide ((l2.length : Int) > 2000)) a0_0 a0_1 l0_2)))
theorem portreevelaw09_PackBack.mono_l : ∀ k, (∀ y0 y1 y2 y3 y4 y5 y6, LeO (portreevelaw09_PackBack.j0 k y0 y1 y2 y3 y4 y5 y6) (portreevelaw09_PackBack.j0 (k + 1) y0 y1 y2 y3 y4 y5 y6)) ∧ (∀ y0 y1 y2 y3 y4 y5, LeO (portreevelaw09_PackBack.j2 k y0 y1 y2 y3 y4 y5) (portreevelaw09_PackBack.j2 (k + 1) y0 y1 y2 y3 y4 y5)) ∧ (∀ y0 y1 y2 y3 y4 y5 y6, LeO (portreevelaw09_PackBack.j1 k y0 y1 y2 y3 y4 y5 y6) (portreevelaw09_PackBack.j1 (k + 1) y0 y1 y2 y3 y4 y5 y6))
  | 0 => ⟨fun _ _ _ _ _ _ _ r h => by simp [portreevelaw09_PackBack.j0] at h, fun _ _ _ _ _ _ r h => by simp [portreevelaw09_PackBack.j2] at h, fun _ _ _ _ _ _ _ r h => by simp [portreevelaw09_PackBack.j1] at h⟩
  | k + 1 => by
    obtain ⟨ih0, ih1, ih2⟩ := portreevelaw09_PackBack.mono_l k
    refine ⟨?_, ?_, ?_⟩
    · intro y0 y1 y2 y3 y4 y5 y6
      unfold portreevelaw09_PackBack.j0
      repeat' first
      | (with_reducible exact ih0 _ _ _ _ _ _ _)
      | (with_reducible exact ih1 _ _ _ _ _ _)
      | (with_reducible exact ih2 _ _ _ _ _ _ _)
      | (with_reducible exact pack_Read.mono _ _)
      | (with_reducible exact portreevelaw09_shown.mono _)
      | (with_reducible exact portreeveref01_Row.mono _ _ _)
      | (with_reducible exact portreeveref09_Same.mono _ _ _ _ _ _ _)
      | (with_reducible exact LeO.refl _)
      | (with_reducible exact LeO.none _)
      | (with_reducible refine LeO.ite ?_ ?_)
      | (with_reducible refine LeO.bind ?_ (fun _ => ?_))
      | exact ih0 _ _ _ _ _ _ _
      | exact ih1 _ _ _ _ _ _
      | exact ih2 _ _ _ _ _ _ _
      | exact pack_Read.mono _ _
      | exact portreevelaw09_shown.mono _
      | exact portreeveref01_Row.mono _ _ _
      | exact portreeveref09_Same.mono _ _ _ _ _ _ _
      | exact LeO.none _
      | refine LeO.ite ?_ ?_
      | refine LeO.bind ?_ (fun _ => ?_)
    · intro y0 y1 y2 y3 y4 y5
      unfold portreevelaw09_PackBack.j2
      repeat' first
      | (with_reducible exact ih0 _ _ _ _ _ _ _)
      | (with_reducible exact ih1 _ _ _ _ _ _)
      | (with_reducible exact ih2 _ _ _ _ _ _ _)
      | (with_reducible exact pack_Read.mono _ _)
      | (with_reducible exact portreevelaw09_shown.mono _)
      | (with_reducible exact portreeveref01_Row.mono _ _ _)
      | (with_reducible exact portreeveref09_Same.mono _ _ _ _ _ _ _)
      | (with_reducible exact LeO.refl _)
      | (with_reducible exact LeO.none _)
      | (with_reducible refine LeO.ite ?_ ?_)
      | (with_reducible refine LeO.bind ?_ (fun _ => ?_))
      | exact ih0 _ _ _ _ _ _ _
      | exact ih1 _ _ _ _ _ _
      | exact ih2 _ _ _ _ _ _ _
      | exact pack_Read.mono _ _
      | exact portreevelaw09_shown.mono _
      | exact portreeveref01_Row.mono _ _ _
      | exact portreeveref09_Same.mono _ _ _ _ _ _ _
      | exact LeO.none _
      | refine LeO.ite ?_ ?_
      | refine LeO.bind ?_ (fun _ => ?_)
    · intro y0 y1 y2 y3 y4 y5 y6
      unfold portreevelaw09_PackBack.j1
      repeat' first
      | (with_reducible exact ih0 _ _ _ _ _ _ _)
      | (with_reducible exact ih1 _ _ _ _ _ _)
      | (with_reducible exact ih2 _ _ _ _ _ _ _)
      | (with_reducible exact pack_Read.mono _ _)
      | (with_reducible exact portreevelaw09_shown.mono _)
      | (with_reducible exact portreeveref01_Row.mono _ _ _)
      | (with_reducible exact portreeveref09_Same.mono _ _ _ _ _ _ _)
      | (with_reducible exact LeO.refl _)
      | (with_reducible exact LeO.none _)
      | (with_reducible refine LeO.ite ?_ ?_)
      | (with_reducible refine LeO.bind ?_ (fun _ => ?_))
      | exact ih0 _ _ _ _ _ _ _
      | exact ih1 _ _ _ _ _ _
      | exact ih2 _ _ _ _ _ _ _
      | exact pack_Read.mono _ _
      | exact portreevelaw09_shown.mono _
      | exact portreeveref01_Row.mono _ _ _
      | exact portreeveref09_Same.mono _ _ _ _ _ _ _
      | exact LeO.none _
      | refine LeO.ite ?_ ?_
      | refine LeO.bind ?_ (fun _ => ?_)
theorem portreevelaw09_PackBack.mono : ∀ a0 a1 a2 a3 a4 k, LeO (portreevelaw09_PackBack.f k a0 a1 a2 a3 a4) (portreevelaw09_PackBack.f (k + 1) a0 a1 a2 a3 a4) := by
  intro a0 a1 a2 a3 a4 k
  obtain ⟨ih0, ih1, ih2⟩ := portreevelaw09_PackBack.mono_l k
  unfold portreevelaw09_PackBack.f
  repeat' first
      | (with_reducible exact ih0 _ _ _ _ _ _ _)
      | (with_reducible exact ih1 _ _ _ _ _ _)
      | (with_reducible exact ih2 _ _ _ _ _ _ _)
      | (with_reducible exact pack_Read.mono _ _)
      | (with_reducible exact portreevelaw09_shown.mono _)
      | (with_reducible exact portreeveref01_Row.mono _ _ _)
      | (with_reducible exact portreeveref09_Same.mono _ _ _ _ _ _ _)
      | (with_reducible exact LeO.refl _)
      | (with_reducible exact LeO.none _)
      | (with_reducible refine LeO.ite ?_ ?_)
      | (with_reducible refine LeO.bind ?_ (fun _ => ?_))
      | exact ih0 _ _ _ _ _ _ _
      | exact ih1 _ _ _ _ _ _
      | exact ih2 _ _ _ _ _ _ _
      | exact pack_Read.mono _ _
      | exact portreevelaw09_shown.mono _
      | exact portreeveref01_Row.mono _ _ _
      | exact portreeveref09_Same.mono _ _ _ _ _ _ _
      | exact LeO.none _
      | refine LeO.ite ?_ ?_
      | refine LeO.bind ?_ (fun _ => ?_)
set_option maxHeartbeats 8000000 in
set_option maxRecDepth 100000 in
theorem portreevelaw09_PackBack.calls (k : Nat) (a0_0 : Int) (a0_1 : Int) (A0_2 : Option Addr) (c0_2 : Nat) (l0_2 : List Int) (A1 : Option Addr) (c1 : Nat) (l1 : List Int) (A2 : Option Addr) (c2 : Nat) (l2 : List Int) (r : Bool) (w : World) (hlaw_ : Aside0 (r = true)) (hr0_2 : Kd.C (Kd.int .u8) w A0_2 l0_2.length l0_2) (hc0_2 : l0_2.length ≤ c0_2) (hr1 : Kd.C (Kd.int .u8) w A1 l1.length l1) (hc1 : l1.length ≤ c1) (hr2 : Kd.C (Kd.int .u8) w A2 l2.length l2) (hc2 : l2.length ≤ c2) (h : portreevelaw09_PackBack.f k a0_0 a0_1 l0_2 l1 l2 = some r) :
    Calls Try.prog 4 #[.agg #[.int .u8 a0_0, .int .u8 a0_1, .slice A0_2 l0_2.length c0_2], .slice A1 l1.length c1, .slice A2 l2.length c2] w fun e w' => e = .returned (.bool r) ∧ Below w.heap.size w w' := by
  have hu24 := Try.underlying24
  have HR0_2 := Aside0.mk hr0_2
  have HC0_2 := Aside0.mk hc0_2
  clear hr0_2 hc0_2
  have HR1 := Aside0.mk hr1
  have HC1 := Aside0.mk hc1
  clear hr1 hc1
  have HR2 := Aside0.mk hr2
  have HC2 := Aside0.mk hc2
  clear hr2 hc2
  have HB := Aside0.mk (Below.refl w.heap.size w)
  have H : ((portreevelaw09_shown.f k).bind fun t226 => (if (l0_2.length : Int) > 2000 then (portreevelaw09_PackBack.j0 k l1 l2 t226 true a0_0 a0_1 l0_2) else (if (l1.length : Int) > 300 then (portreevelaw09_PackBack.j0 k l1 l2 t226 true a0_0 a0_1 l0_2) else (portreevelaw09_PackBack.j0 k l1 l2 t226 (decide ((l2.length : Int) > 2000)) a0_0 a0_1 l0_2)))) = some r := h
  clear h
  replace H := Option.bind_eq_some_iff.mp H
  obtain ⟨t226, A40, H⟩ := H
  replace H : (if (l0_2.length : Int) > 2000 then (portreevelaw09_PackBack.j0 k l1 l2 t226 true a0_0 a0_1 l0_2) else (if (l1.length : Int) > 300 then (portreevelaw09_PackBack.j0 k l1 l2 t226 true a0_0 a0_1 l0_2) else (portreevelaw09_PackBack.j0 k l1 l2 t226 (decide ((l2.length : Int) > 2000)) a0_0 a0_1 l0_2))) = some r := H
  have A4 := Aside0.mk A40
  clear A40
  have HC5 := Aside0.mk H
  clear H
  go_enter Try.func4, Try.ntmps4
  go_upto_region 2 with (first | ((with_reducible refine gate_dst (N := 3) rfl ?_); (try (refine gate_guard (by rfl) ?_; dsimp only)); refine box_event ?hg (N := 3) ?hd (cs := #[.int .u8 a0_0, .int .u8 a0_1, .slice A0_2 l0_2.length c0_2]) (t := 24) ?hr ?_; (case hd => rfl); (case hg => rfl); (case hr => first | (go_simp; done) | (go_simp; rfl)); intro gb225 hg w6 hbox hb; have n0_ := Aside0.mk (below_step (by repeat (first | (with_reducible first | exact HB.out | apply pA | apply pN | apply pD) | exact HB.out)) hb); have n1_ := Aside0.mk (hbox); have n2_ := Aside0.mk ((by rw [hg]; exact (below_size (by repeat (first | (with_reducible first | exact HB.out | apply pA | apply pN | apply pD) | exact HB.out))) : w.heap.size ≤ gb225)); have n3_ := Aside0.mk ((by rw [hg]; exact (below_size (by repeat (first | (with_reducible first | exact HB.out | apply pA | apply pN | apply pD) | exact HB.out))) : w.heap.size ≤ gb225)); clear HB; have HB := n0_; have BK225 := n1_; have GW225 := n2_; have GE225 := n3_; clear n0_ n1_ n2_ n3_; clear hb hbox hg) | ((with_reducible refine gate_callee (f := 8) rfl ?_); refine goesL_ (some 16) rfl rfl Try.func8 (by kernel_rfl) rfl #[] rfl (by (try simp only [List.map_toArray, List.map_cons, List.map_nil]); first | done | rfl | (simp only [List.length_drop, List.length_take]; rfl)) ?_; (with_reducible refine (portreevelaw09_shown.calls k  t226 _ A4.out).mono ?_); rintro e w7 ⟨rfl, hb⟩; refine ⟨_, rfl, ?_⟩; have n0_ := Aside0.mk (blk_below (g := gb225) (o := .cells #[.int .u8 a0_0, .int .u8 a0_1, .slice A0_2 l0_2.length c0_2] 24 (0, 0)) (by (with_reducible repeat (first | refine qN ?_ _ | refine qD ?_ | refine qA ?_ _)); exact BK225.out) hb); have n1_ := Aside0.mk (below_step (by repeat (first | (with_reducible first | exact HB.out | apply pA | apply pN | apply pD | refine pS ?_ GE225.out) | exact HB.out)) hb); clear BK225; clear HB; have BK225 := n0_; have HB := n1_; clear n0_ n1_; (try clear hb); (try clear hb2); (try clear hk); (try clear hi)))
  (try simp only [Act.put, List.setIfInBounds_toArray, List.set_cons_zero, List.set_cons_succ])
  go_cut [30] (fun v30 wc => ∃ (kq : Nat) (x30_4 : Bool), v30 = .bool x30_4 ∧ Aside0 (portreevelaw09_PackBack.j0 kq l1 l2 t226 x30_4 a0_0 a0_1 l0_2 = some r) ∧ Aside0 (kq ≤ k) ∧ Aside0 (wc.heap[gb225]? = some (.cells #[.int .u8 a0_0, .int .u8 a0_1, (.slice A0_2 l0_2.length c0_2)] 24 (0, 0))) ∧ Aside0 (Below w.heap.size w wc))
  case first =>
    have H := HC5.out
    clear HC5
    by_cases c8 : (l0_2.length : Int) > 2000
    · rw [if_pos c8] at H
      have c8b0 : decide (2000 < (l0_2.length : Int)) = true := decide_eq_true c8
      have c8b1 : decide (2000 < l0_2.length) = true := decide_eq_true (by omega)
      clear c8
      (first | rw [c8b0] | (simp only [i64_w, i32_w]; rw [c8b0]) | skip)
      have H' := Aside0.mk H
      clear H
      have hcz9_0 : w7.cell? ⟨gb225, 0, none⟩ = some (.int .u8 a0_0) := (blk_cell BK225.out 0).trans rfl
      have hcz9_1 : w7.cell? ⟨gb225, 1, none⟩ = some (.int .u8 a0_1) := (blk_cell BK225.out 1).trans rfl
      have hcz9_2 : w7.cell? ⟨gb225, 2, none⟩ = some (.slice A0_2 l0_2.length c0_2) := (blk_cell BK225.out 2).trans rfl
      have hfz9_0 := blk_frozen BK225.out 0
      have hfz9_1 := blk_frozen BK225.out 1
      have hfz9_2 := blk_frozen BK225.out 2
      go_wp2
      go_meet
      case rel => exact ⟨_, (true), (by first | rfl | (simp; done) | (simp [*]; done)), H', ⟨by first | omega | exact Nat.le_refl _⟩, ⟨by (with_reducible repeat (first | refine qN ?_ _ | refine qD ?_ | refine qA ?_ _)); exact BK225.out⟩, ⟨by repeat (first | (with_reducible first | exact HB.out | apply pA | apply pN | apply pD | refine pS ?_ GE225.out) | exact HB.out)⟩⟩
    · rw [if_neg c8] at H
      have c8b0 : decide (2000 < (l0_2.length : Int)) = false := decide_eq_false c8
      have c8b1 : decide (2000 < l0_2.length) = false := decide_eq_false (by omega)
      clear c8
      (first | rw [c8b0] | (simp only [i64_w, i32_w]; rw [c8b0]) | skip)
      by_cases c10 : (l1.length : Int) > 300
      · rw [if_pos c10] at H
        have c10b0 : decide (300 < (l1.length : Int)) = true := decide_eq_true c10
        have c10b1 : decide (300 < l1.length) = true := decide_eq_true (by omega)
        clear c10
        have H' := Aside0.mk H
        clear H
        have hcz11_0 : w7.cell? ⟨gb225, 0, none⟩ = some (.int .u8 a0_0) := (blk_cell BK225.out 0).trans rfl
        have hcz11_1 : w7.cell? ⟨gb225, 1, none⟩ = some (.int .u8 a0_1) := (blk_cell BK225.out 1).trans rfl
        have hcz11_2 : w7.cell? ⟨gb225, 2, none⟩ = some (.slice A0_2 l0_2.length c0_2) := (blk_cell BK225.out 2).trans rfl
        have hfz11_0 := blk_frozen BK225.out 0
        have hfz11_1 := blk_frozen BK225.out 1
        have hfz11_2 := blk_frozen BK225.out 2
        go_wp2
        go_meet
        case rel => exact ⟨_, (true), (by first | rfl | (simp; done) | (simp [*]; done)), H', ⟨by first | omega | exact Nat.le_refl _⟩, ⟨by (with_reducible repeat (first | refine qN ?_ _ | refine qD ?_ | refine qA ?_ _)); exact BK225.out⟩, ⟨by repeat (first | (with_reducible first | exact HB.out | apply pA | apply pN | apply pD | refine pS ?_ GE225.out) | exact HB.out)⟩⟩
      · rw [if_neg c10] at H
        have c10b0 : decide (300 < (l1.length : Int)) = false := decide_eq_false c10
        have c10b1 : decide (300 < l1.length) = false := decide_eq_false (by omega)
        clear c10
        have H' := Aside0.mk H
        clear H
        have hcz12_0 : w7.cell? ⟨gb225, 0, none⟩ = some (.int .u8 a0_0) := (blk_cell BK225.out 0).trans rfl
        have hcz12_1 : w7.cell? ⟨gb225, 1, none⟩ = some (.int .u8 a0_1) := (blk_cell BK225.out 1).trans rfl
        have hcz12_2 : w7.cell? ⟨gb225, 2, none⟩ = some (.slice A0_2 l0_2.length c0_2) := (blk_cell BK225.out 2).trans rfl
        have hfz12_0 := blk_frozen BK225.out 0
        have hfz12_1 := blk_frozen BK225.out 1
        have hfz12_2 := blk_frozen BK225.out 2
        go_wp2
        go_meet
        case rel => exact ⟨_, (decide ((l2.length : Int) > 2000)), (by first | rfl | (simp; done) | (simp [*]; done)), H', ⟨by first | omega | exact Nat.le_refl _⟩, ⟨by (with_reducible repeat (first | refine qN ?_ _ | refine qD ?_ | refine qA ?_ _)); exact BK225.out⟩, ⟨by repeat (first | (with_reducible first | exact HB.out | apply pA | apply pN | apply pD | refine pS ?_ GE225.out) | exact HB.out)⟩⟩
  case rest =>
    clear HC5
    try clear c1
    try clear c2
    try clear p2
    try clear c4
    try clear c8
    try clear c8b0
    try clear c8b1
    try clear c10
    try clear c10b0
    try clear c10b1
    try clear hcz11_0
    try clear hcz11_1
    try clear hcz11_2
    try clear hcz12_0
    try clear hcz12_1
    try clear hcz12_2
    try clear hcz9_0
    try clear hcz9_1
    try clear hcz9_2
    try clear hfz11_0
    try clear hfz11_1
    try clear hfz11_2
    try clear hfz12_0
    try clear hfz12_1
    try clear hfz12_2
    try clear hfz9_0
    try clear hfz9_1
    try clear hfz9_2
    obtain ⟨kq, x30_4, rfl, HA, HJ4, BK225, HB⟩ := hcut
    cases kq with
    | zero => exact absurd HA.out (by simp [portreevelaw09_PackBack.j0])
    | succ kj4 =>
      have H := HA.out
      clear HA
      simp only [portreevelaw09_PackBack.j0] at H
      by_cases c13 : x30_4 = true
      · subst c13
        have H1 : (some t226) = some r := by rw [if_pos rfl] at H; exact H
        clear H
        have H := H1
        clear H1
        clear hlaw_
        obtain rfl := Option.some.inj H
        go_wp2
        go_ret
        exact ⟨by first | rfl | (simp [errW_none, errW_some] <;> rfl) | (simp [*, errW_none, errW_some] <;> rfl), by repeat (first | (with_reducible first | exact HB.out | apply pA | apply pN | apply pD | refine pS ?_ GE225.out) | exact HB.out)⟩
      · replace c13 := Bool.eq_false_iff.mpr c13
        subst c13
        have H1 : ((pack_Bytes.f a0_0 a0_1 l0_2).bind fun bt227 => (if bt227.2 = 0 then ((some (([] : List Int) : List Int)).bind fun y231 => (if y231.length + bt227.1.length < 140737488355328 then ((some (y231 ++ bt227.1 : List Int)).bind fun y234 => (if y234.length + l1.length < 140737488355328 then ((pack_Read.f kj4 (y234 ++ l1)).bind fun bt240 => (if bt240.2.2.2 = 0 then ((portreeveref09_Same.f kj4 a0_0 a0_1 l0_2 bt240.1 bt240.2.1 bt240.2.2.1).bind fun t247 => (if t247 = true then (portreevelaw09_PackBack.j1 kj4 l2 t226 bt227.2 ((bt227.1.length : Int) != (wrap64 (4 + (l0_2.length : Int)))) a0_0 a0_1 l0_2) else (portreevelaw09_PackBack.j1 kj4 l2 t226 bt227.2 true a0_0 a0_1 l0_2))) else (portreevelaw09_PackBack.j1 kj4 l2 t226 bt227.2 true a0_0 a0_1 l0_2))) else (none))) else (none))) else (portreevelaw09_PackBack.j2 kj4 l2 t226 bt227.2 a0_0 a0_1 l0_2))) = some r := by rw [if_neg (show ¬ (false = true) by decide)] at H; exact H
        clear H
        have H := H1
        clear H1
        replace H := Option.bind_eq_some_iff.mp H
        obtain ⟨⟨t227, t230⟩, A140, H⟩ := H
        replace H : (if t230 = 0 then ((some (([] : List Int) : List Int)).bind fun y231 => (if y231.length + t227.length < 140737488355328 then ((some (y231 ++ t227 : List Int)).bind fun y234 => (if y234.length + l1.length < 140737488355328 then ((pack_Read.f kj4 (y234 ++ l1)).bind fun bt240 => (if bt240.2.2.2 = 0 then ((portreeveref09_Same.f kj4 a0_0 a0_1 l0_2 bt240.1 bt240.2.1 bt240.2.2.1).bind fun t247 => (if t247 = true then (portreevelaw09_PackBack.j1 kj4 l2 t226 t230 ((t227.length : Int) != (wrap64 (4 + (l0_2.length : Int)))) a0_0 a0_1 l0_2) else (portreevelaw09_PackBack.j1 kj4 l2 t226 t230 true a0_0 a0_1 l0_2))) else (portreevelaw09_PackBack.j1 kj4 l2 t226 t230 true a0_0 a0_1 l0_2))) else (none))) else (none))) else (portreevelaw09_PackBack.j2 kj4 l2 t226 t230 a0_0 a0_1 l0_2)) = some r := H
        have A14 := Aside0.mk A140
        clear A140
        have HC15 := Aside0.mk H
        clear H
        have hcz16_0 : wc.cell? ⟨gb225, 0, none⟩ = some (.int .u8 a0_0) := (blk_cell BK225.out 0).trans rfl
        have hcz16_1 : wc.cell? ⟨gb225, 1, none⟩ = some (.int .u8 a0_1) := (blk_cell BK225.out 1).trans rfl
        have hcz16_2 : wc.cell? ⟨gb225, 2, none⟩ = some (.slice A0_2 l0_2.length c0_2) := (blk_cell BK225.out 2).trans rfl
        have hfz16_0 := blk_frozen BK225.out 0
        have hfz16_1 := blk_frozen BK225.out 1
        have hfz16_2 := blk_frozen BK225.out 2
        go_upto_if 38 with (first | ((with_reducible refine gate_callee (f := 9) rfl ?_); refine goesL_ (some 34) rfl rfl Try.func9 (by kernel_rfl) rfl #[.agg #[.int .u8 a0_0, .int .u8 a0_1, .slice A0_2 l0_2.length c0_2]] rfl (by (try simp only [List.map_toArray, List.map_cons, List.map_nil]); first | done | rfl | (simp only [List.length_drop, List.length_take]; rfl)) ?_; (with_reducible refine (pack_Bytes.calls a0_0 a0_1 _ _ l0_2 t227 t230 _ ?side1 ?side2 A14.out).mono ?_); (case side1 => repeat (first | exact (Kd.C_below HR0_2.out HB.out) | (with_reducible refine Kd.C_alloc ?_ _) | (with_reducible refine Kd.C_drewN ?_ _) | (with_reducible refine Kd.C_drew ?_))); (case side2 => exact HC0_2.out); rintro e w17 ⟨v228, rfl, ho0, hb⟩; refine ⟨_, rfl, ?_⟩; have n0_ := Aside0.mk (Kd.R_lower ho0 (below_size (by repeat (first | (with_reducible first | exact HB.out | apply pA | apply pN | apply pD | refine pS ?_ GE225.out) | exact HB.out)))); have n1_ := Aside0.mk (blk_below (g := gb225) (o := .cells #[.int .u8 a0_0, .int .u8 a0_1, .slice A0_2 l0_2.length c0_2] 24 (0, 0)) (by (with_reducible repeat (first | refine qN ?_ _ | refine qD ?_ | refine qA ?_ _)); exact BK225.out) hb); have n2_ := Aside0.mk (below_step (by repeat (first | (with_reducible first | exact HB.out | apply pA | apply pN | apply pD | refine pS ?_ GE225.out) | exact HB.out)) hb); clear BK225; clear HB; have HO229 := n0_; have BK225 := n1_; have HB := n2_; clear n0_ n1_ n2_; (try clear hb); (try clear hb2); (try clear hk); (try clear hi); (try clear ho0)))
        (try simp only [Act.put, List.setIfInBounds_toArray, List.set_cons_zero, List.set_cons_succ])
        go_cut [] (fun wc => ∃ (kq : Nat), Aside0 (portreevelaw09_PackBack.j2 kq l2 t226 t230 a0_0 a0_1 l0_2 = some r) ∧ Aside0 (kq ≤ kj4) ∧ Aside0 (wc.heap[gb225]? = some (.cells #[.int .u8 a0_0, .int .u8 a0_1, (.slice A0_2 l0_2.length c0_2)] 24 (0, 0))) ∧ Aside0 (Below w.heap.size w wc))
        case first =>
          have H := HC15.out
          clear HC15
          by_cases c18 : t230 = 0
          · rw [if_pos c18] at H
            have c18b0 : (t230 == 0) = true := beq_iff_eq.mpr c18
            have c18b1 : (t230 != 0) = false := bne_eq_false_iff_eq.mpr c18
            clear c18
            (first | rw [c18b0] | (simp only [i64_w, i32_w]; rw [c18b0]) | skip)
            obtain ⟨y231, hy231⟩ : ∃ y_ : List Int, y_ = (([] : List Int)) := ⟨_, rfl⟩
            replace H : (if y231.length + t227.length < 140737488355328 then ((some (y231 ++ t227 : List Int)).bind fun y234 => (if y234.length + l1.length < 140737488355328 then ((pack_Read.f kj4 (y234 ++ l1)).bind fun bt240 => (if bt240.2.2.2 = 0 then ((portreeveref09_Same.f kj4 a0_0 a0_1 l0_2 bt240.1 bt240.2.1 bt240.2.2.1).bind fun t247 => (if t247 = true then (portreevelaw09_PackBack.j1 kj4 l2 t226 t230 ((t227.length : Int) != (wrap64 (4 + (l0_2.length : Int)))) a0_0 a0_1 l0_2) else (portreevelaw09_PackBack.j1 kj4 l2 t226 t230 true a0_0 a0_1 l0_2))) else (portreevelaw09_PackBack.j1 kj4 l2 t226 t230 true a0_0 a0_1 l0_2))) else (none))) else (none)) = some r := by first | (rw [hy231]; with_reducible exact H) | (have H2_ := (Option.bind_some _ _).symm.trans H; rw [hy231]; with_reducible exact H2_) | (have H2_ := (Option.bind_some _ _).symm.trans H; with_reducible exact H2_) | with_reducible exact H | (rw [hy231]; exact H) | exact H
            have Ny231 := Aside0.mk hy231
            clear hy231
            by_cases c19 : y231.length + t227.length < 140737488355328
            · rw [if_pos c19] at H
              have LMc19 := Aside0.mk c19
              clear c19
              obtain ⟨y234, hy234⟩ : ∃ y_ : List Int, y_ = (y231 ++ t227) := ⟨_, rfl⟩
              replace H : (if y234.length + l1.length < 140737488355328 then ((pack_Read.f kj4 (y234 ++ l1)).bind fun bt240 => (if bt240.2.2.2 = 0 then ((portreeveref09_Same.f kj4 a0_0 a0_1 l0_2 bt240.1 bt240.2.1 bt240.2.2.1).bind fun t247 => (if t247 = true then (portreevelaw09_PackBack.j1 kj4 l2 t226 t230 ((t227.length : Int) != (wrap64 (4 + (l0_2.length : Int)))) a0_0 a0_1 l0_2) else (portreevelaw09_PackBack.j1 kj4 l2 t226 t230 true a0_0 a0_1 l0_2))) else (portreevelaw09_PackBack.j1 kj4 l2 t226 t230 true a0_0 a0_1 l0_2))) else (none)) = some r := by first | (rw [hy234]; with_reducible exact H) | (have H2_ := (Option.bind_some _ _).symm.trans H; rw [hy234]; with_reducible exact H2_) | (have H2_ := (Option.bind_some _ _).symm.trans H; with_reducible exact H2_) | with_reducible exact H | (rw [hy234]; exact H) | exact H
              have Ny234 := Aside0.mk hy234
              clear hy234
              by_cases c20 : y234.length + l1.length < 140737488355328
              · rw [if_pos c20] at H
                have LMc20 := Aside0.mk c20
                clear c20
                obtain ⟨y237, hy237⟩ : ∃ y_ : List Int, y_ = (y234 ++ l1) := ⟨_, rfl⟩
                replace H : ((pack_Read.f kj4 y237).bind fun bt240 => (if bt240.2.2.2 = 0 then ((portreeveref09_Same.f kj4 a0_0 a0_1 l0_2 bt240.1 bt240.2.1 bt240.2.2.1).bind fun t247 => (if t247 = true then (portreevelaw09_PackBack.j1 kj4 l2 t226 t230 ((t227.length : Int) != (wrap64 (4 + (l0_2.length : Int)))) a0_0 a0_1 l0_2) else (portreevelaw09_PackBack.j1 kj4 l2 t226 t230 true a0_0 a0_1 l0_2))) else (portreevelaw09_PackBack.j1 kj4 l2 t226 t230 true a0_0 a0_1 l0_2))) = some r := by first | (rw [hy237]; with_reducible exact H) | (have H2_ := (Option.bind_some _ _).symm.trans H; rw [hy237]; with_reducible exact H2_) | (have H2_ := (Option.bind_some _ _).symm.trans H; with_reducible exact H2_) | with_reducible exact H | (rw [hy237]; exact H) | exact H
                have Ny237 := Aside0.mk hy237
                clear hy237
                replace H := Option.bind_eq_some_iff.mp H
                obtain ⟨⟨t240, t241, t242, t245⟩, A210, H⟩ := H
                replace H : (if t245 = 0 then ((portreeveref09_Same.f kj4 a0_0 a0_1 l0_2 t240 t241 t242).bind fun t247 => (if t247 = true then (portreevelaw09_PackBack.j1 kj4 l2 t226 t230 ((t227.length : Int) != (wrap64 (4 + (l0_2.length : Int)))) a0_0 a0_1 l0_2) else (portreevelaw09_PackBack.j1 kj4 l2 t226 t230 true a0_0 a0_1 l0_2))) else (portreevelaw09_PackBack.j1 kj4 l2 t226 t230 true a0_0 a0_1 l0_2)) = some r := H
                have A21 := Aside0.mk A210
                clear A210
                have HC22 := Aside0.mk H
                clear H
                go_upto_region 7 with (first | ((with_reducible refine gate_dst (N := 40) rfl ?_); (try (refine gate_guard (by rfl) ?_; dsimp only)); refine Kd.R_lit (Kd.int .u8) _ 5 ?hg (N := 40) ?hd (xs := ([] : List Int)) (inner := []) (ok := fun _ => True) (okp := fun _ => True) ?hr ?hp (fun _ hk => hk) trivial (Below.refl _ _) (Nat.le_refl _) (by simp) ?_; (case hd => rfl); (case hg => rfl); (case hr => first | (go_simp; done) | (go_simp; rfl)); (case hp => exact (Reps.none _ _)); intro v232 w23 ho24 hb hg_ hnew_; clear hg_ hnew_; (first | rw [← Ny231.out] at ho24 | (simp only [Int.reduceToNat] at ho24; rw [← Ny231.out] at ho24)); have n0_ := Aside0.mk (Kd.R_elder' (by (with_reducible repeat (first | apply Kd.R_alloc | apply Kd.R_drewN | apply Kd.R_drew)); exact HO229.out) (Kd.R_base ho24) hb); have n1_ := Aside0.mk (Kd.R_lower (Kd.R_new' ho24 (Kd.R_lt (by (with_reducible repeat (first | apply Kd.R_alloc | apply Kd.R_drewN | apply Kd.R_drew)); exact HO229.out))) (below_size (by repeat (first | (with_reducible first | exact HB.out | apply pA | apply pN | apply pD | refine pS ?_ GE225.out) | exact HB.out)))); have n2_ := Aside0.mk (blk_below (g := gb225) (o := .cells #[.int .u8 a0_0, .int .u8 a0_1, .slice A0_2 l0_2.length c0_2] 24 (0, 0)) (by (with_reducible repeat (first | refine qN ?_ _ | refine qD ?_ | refine qA ?_ _)); exact BK225.out) hb); have n3_ := Aside0.mk (below_step (by repeat (first | (with_reducible first | exact HB.out | apply pA | apply pN | apply pD | refine pS ?_ GE225.out) | exact HB.out)) hb); clear HO229; clear BK225; clear HB; have HO229 := n0_; have HO233 := n1_; have BK225 := n2_; have HB := n3_; clear n0_ n1_ n2_ n3_; clear hb ho24; obtain ⟨Ao26, co26, eo26⟩ := Kd.R_slice HO229.out; subst eo26) | ((with_reducible refine gate_builtin (b := .append) (xs := #[.tmp 40, .tmp 41]) rfl ?_); (try (refine gate_guard (by rfl) ?_; dsimp only)); at_builtin; refine Kd.R_append_rows (Kd.int .u8) (w0 := w) w.heap.size rfl (.tmp 40) (.tmp 41) 22 5 (.int .u8 0) 1 rfl Try.underlying22 info5 rfl (by decide) (by omega) v232 y231 t227 _ _ _ (fun k_ => some k_ ≠ (.slice Ao26 t227.length co26 : Value).ownBlock) (fun _ => False) rfl rfl ?aO ?aR (fun _ _ h => h) (fun _ h => h.elim) ?aF ?aB ?aS ?aL ?_; (case aR => repeat (first | exact (Kd.R_reads' HO229.out).2.2 | (with_reducible refine Kd.C_alloc ?_ _) | (with_reducible refine Kd.C_drewN ?_ _) | (with_reducible refine Kd.C_drew ?_))); (case aB => exact (by repeat (first | (with_reducible first | exact HB.out | apply pA | apply pN | apply pD | refine pS ?_ GE225.out) | exact HB.out))); (case aF => exact (fun k_ hk => Kd.fresh' (Kd.R_lt (by (with_reducible repeat (first | apply Kd.R_alloc | apply Kd.R_drewN | apply Kd.R_drew)); exact HO229.out)) k_ hk)); (case aO => exact (by (with_reducible repeat (first | apply Kd.R_alloc | apply Kd.R_drewN | apply Kd.R_drew)); exact Kd.R_mono HO233.out (fun _ hk => hk.2))); (case aS => exact (below_size (by repeat (first | (with_reducible first | exact HB.out | apply pA | apply pN | apply pD | refine pS ?_ GE225.out) | exact HB.out)))); (case aL => have := LMc19.out; omega); intro v235 w25 ho hb hg hat; rw [← Ny234.out] at ho; have n0_ := Aside0.mk (blk_grown (g := gb225) (o := .cells #[.int .u8 a0_0, .int .u8 a0_1, .slice A0_2 l0_2.length c0_2] 24 (0, 0)) (by (with_reducible repeat (first | refine qN ?_ _ | refine qD ?_ | refine qA ?_ _)); exact BK225.out) hg (Kd.R_ne HO233.out BK225.out (by decide))); have n1_ := Aside0.mk (Kd.R_after (ok := (fun _ => True)) (by (with_reducible repeat (first | apply Kd.R_alloc | apply Kd.R_drewN | apply Kd.R_drew)); exact HO229.out) hg hat); have n2_ := Aside0.mk (hb); have n3_ := Aside0.mk (ho); clear BK225; clear HO229; clear HB; clear HO233; have BK225 := n0_; have HO229 := n1_; have HB := n2_; have HO236 := n3_; clear n0_ n1_ n2_ n3_; clear ho hb hg hat) | ((with_reducible refine gate_builtin (b := .append) (xs := #[.tmp 42, .tmp 43]) rfl ?_); (try (refine gate_guard (by rfl) ?_; dsimp only)); at_builtin; refine Kd.R_append_rows (Kd.int .u8) (w0 := w) w.heap.size rfl (.tmp 42) (.tmp 43) 22 5 (.int .u8 0) 1 rfl Try.underlying22 info5 rfl (by decide) (by omega) v235 y234 l1 _ _ _ (fun k_ => some k_ ≠ (.slice Ao26 t227.length co26 : Value).ownBlock) (fun _ => False) rfl rfl ?aO ?aR (fun _ _ h => h) (fun _ h => h.elim) ?aF ?aB ?aS ?aL ?_; (case aR => repeat (first | exact (Kd.C_below HR1.out HB.out) | (with_reducible refine Kd.C_alloc ?_ _) | (with_reducible refine Kd.C_drewN ?_ _) | (with_reducible refine Kd.C_drew ?_))); (case aB => exact (by repeat (first | (with_reducible first | exact HB.out | apply pA | apply pN | apply pD | refine pS ?_ GE225.out) | exact HB.out))); (case aF => exact (fun k_ hk => Kd.fresh' (Kd.R_lt (by (with_reducible repeat (first | apply Kd.R_alloc | apply Kd.R_drewN | apply Kd.R_drew)); exact HO229.out)) k_ hk)); (case aO => exact (by (with_reducible repeat (first | apply Kd.R_alloc | apply Kd.R_drewN | apply Kd.R_drew)); exact HO236.out)); (case aS => exact (below_size (by repeat (first | (with_reducible first | exact HB.out | apply pA | apply pN | apply pD | refine pS ?_ GE225.out) | exact HB.out)))); (case aL => have := LMc20.out; omega); intro v238 w27 ho hb hg hat; rw [← Ny237.out] at ho; have n0_ := Aside0.mk (blk_grown (g := gb225) (o := .cells #[.int .u8 a0_0, .int .u8 a0_1, .slice A0_2 l0_2.length c0_2] 24 (0, 0)) (by (with_reducible repeat (first | refine qN ?_ _ | refine qD ?_ | refine qA ?_ _)); exact BK225.out) hg (Kd.R_ne HO236.out BK225.out (by decide))); have n1_ := Aside0.mk (Kd.R_after (ok := (fun _ => True)) (by (with_reducible repeat (first | apply Kd.R_alloc | apply Kd.R_drewN | apply Kd.R_drew)); exact HO229.out) hg hat); have n2_ := Aside0.mk (hb); have n3_ := Aside0.mk (ho); clear BK225; clear HO229; clear HB; clear HO236; have BK225 := n0_; have HO229 := n1_; have HB := n2_; have HO239 := n3_; clear n0_ n1_ n2_ n3_; clear ho hb hg hat; obtain ⟨Ao28, co28, eo28⟩ := Kd.R_slice HO239.out; subst eo28) | ((with_reducible refine gate_callee (f := 11) rfl ?_); refine goesL_ (some 45) rfl rfl Try.func11 (by kernel_rfl) rfl #[.slice Ao28 y237.length co28] rfl (by (try simp only [List.map_toArray, List.map_cons, List.map_nil]); first | done | rfl | (simp only [List.length_drop, List.length_take]; rfl)) ?_; (with_reducible refine (pack_Read.calls kj4 (fun k_ => some k_ = (.slice Ao28 y237.length co28 : Value).ownBlock) _ _ y237 t240 t241 t242 t245 _ ?side1 A21.out).mono ?_); (case side1 => exact Kd.R_V (Kd.R_tight rfl (Kd.R_types (HO239.out) BK225.out (by decide)))); rintro e w29 ⟨v243, rfl, ho0, hb⟩; refine ⟨_, rfl, ?_⟩; have n0_ := Aside0.mk (Kd.R_below (by (with_reducible repeat (first | apply Kd.R_alloc | apply Kd.R_drewN | apply Kd.R_drew)); exact HO229.out) hb); have n1_ := Aside0.mk (Kd.R_below (by (with_reducible repeat (first | apply Kd.R_alloc | apply Kd.R_drewN | apply Kd.R_drew)); exact HO239.out) hb); have n2_ := Aside0.mk (Kd.V_lower (Kd.V_mono (ok' := fun k_ => some k_ ≠ (.slice Ao26 t227.length co26 : Value).ownBlock ∧ k_ ≠ gb225) ho0 (fun k_ hk_ => ⟨Or.elim hk_ (fun hs_ => ((Kd.R_types (HO239.out) BK225.out (by decide)).1 k_ hs_.symm).1) (fun hn_ => (Kd.fresh' (Kd.R_lt (by (with_reducible repeat (first | apply Kd.R_alloc | apply Kd.R_drewN | apply Kd.R_drew)); exact HO229.out)) k_ hn_)), Or.elim hk_ (fun hs_ => ((Kd.R_types (HO239.out) BK225.out (by decide)).1 k_ hs_.symm).2) (fun hn_ => (Kd.freshB (g := gb225) (o := .cells #[.int .u8 a0_0, .int .u8 a0_1, .slice A0_2 l0_2.length c0_2] 24 (0, 0)) (by (with_reducible repeat (first | refine qN ?_ _ | refine qD ?_ | refine qA ?_ _)); exact BK225.out) k_ hn_))⟩)) (below_size (by repeat (first | (with_reducible first | exact HB.out | apply pA | apply pN | apply pD | refine pS ?_ GE225.out) | exact HB.out)))); have n3_ := Aside0.mk (blk_below (g := gb225) (o := .cells #[.int .u8 a0_0, .int .u8 a0_1, .slice A0_2 l0_2.length c0_2] 24 (0, 0)) (by (with_reducible repeat (first | refine qN ?_ _ | refine qD ?_ | refine qA ?_ _)); exact BK225.out) hb); have n4_ := Aside0.mk (below_step (by repeat (first | (with_reducible first | exact HB.out | apply pA | apply pN | apply pD | refine pS ?_ GE225.out) | exact HB.out)) hb); clear HO229; clear HO239; clear BK225; clear HB; have HO229 := n0_; have HO239 := n1_; have HO244 := n2_; have BK225 := n3_; have HB := n4_; clear n0_ n1_ n2_ n3_ n4_; (try clear hb); (try clear hb2); (try clear hk); (try clear hi); (try clear ho0)) | ((with_reducible refine gate_dst (N := 10) rfl ?_); (try (refine gate_guard (by rfl) ?_; dsimp only)); refine box_event ?hg (N := 10) ?hd (cs := #[.int .u8 0, .int .u8 0, .slice none 0 0]) (t := 24) ?hr ?_; (case hd => rfl); (case hg => rfl); (case hr => first | (go_simp; done) | (go_simp; rfl)); intro gb246 hg w30 hbox hb; have n0_ := Aside0.mk (Kd.R_below (by (with_reducible repeat (first | apply Kd.R_alloc | apply Kd.R_drewN | apply Kd.R_drew)); exact HO229.out) hb); have n1_ := Aside0.mk (Kd.R_below (by (with_reducible repeat (first | apply Kd.R_alloc | apply Kd.R_drewN | apply Kd.R_drew)); exact HO239.out) hb); have n2_ := Aside0.mk (Kd.V_below (Kd.V_elderB (by (with_reducible repeat (first | apply Kd.V_alloc | apply Kd.V_drewN | apply Kd.V_drew)); exact HO244.out) gb246 (Nat.le_of_eq hg.symm)) hb); have n3_ := Aside0.mk (blk_below (g := gb225) (o := .cells #[.int .u8 a0_0, .int .u8 a0_1, .slice A0_2 l0_2.length c0_2] 24 (0, 0)) (by (with_reducible repeat (first | refine qN ?_ _ | refine qD ?_ | refine qA ?_ _)); exact BK225.out) hb); have n4_ := Aside0.mk (below_step (by repeat (first | (with_reducible first | exact HB.out | apply pA | apply pN | apply pD | refine pS ?_ GE225.out) | exact HB.out)) hb); have n5_ := Aside0.mk (hbox); have n6_ := Aside0.mk ((by rw [hg]; exact (below_size (by repeat (first | (with_reducible first | exact HB.out | apply pA | apply pN | apply pD | refine pS ?_ GE225.out) | exact HB.out))) : w.heap.size ≤ gb246)); have n7_ := Aside0.mk ((by rw [hg]; exact (below_size (by repeat (first | (with_reducible first | exact HB.out | apply pA | apply pN | apply pD | refine pS ?_ GE225.out) | exact HB.out))) : w.heap.size ≤ gb246)); have n8_ := Aside0.mk ((by rw [hg]; exact Nat.ne_of_lt (blk_lt (g := gb225) (o := .cells #[.int .u8 a0_0, .int .u8 a0_1, .slice A0_2 l0_2.length c0_2] 24 (0, 0)) (by (with_reducible repeat (first | refine qN ?_ _ | refine qD ?_ | refine qA ?_ _)); exact BK225.out)) : gb225 ≠ gb246)); have n9_ := Aside0.mk ((by rw [hg]; exact Nat.ne_of_gt (blk_lt (g := gb225) (o := .cells #[.int .u8 a0_0, .int .u8 a0_1, .slice A0_2 l0_2.length c0_2] 24 (0, 0)) (by (with_reducible repeat (first | refine qN ?_ _ | refine qD ?_ | refine qA ?_ _)); exact BK225.out)) : gb246 ≠ gb225)); clear HO229; clear HO239; clear HO244; clear BK225; clear HB; have HO229 := n0_; have HO239 := n1_; have HO244 := n2_; have BK225 := n3_; have HB := n4_; have BK246 := n5_; have GW246 := n6_; have GE246 := n7_; have NB225_246 := n8_; have NB246_225 := n9_; clear n0_ n1_ n2_ n3_ n4_ n5_ n6_ n7_ n8_ n9_; clear hb hbox hg; have hnb31 := NB246_225.out; have hnc31 := NB225_246.out; have hcz32_0 : w30.cell? ⟨gb246, 0, none⟩ = some (.int .u8 0) := (blk_cell BK246.out 0).trans rfl; have hcz32_1 : w30.cell? ⟨gb246, 1, none⟩ = some (.int .u8 0) := (blk_cell BK246.out 1).trans rfl; have hcz32_2 : w30.cell? ⟨gb246, 2, none⟩ = some (.slice none 0 0) := (blk_cell BK246.out 2).trans rfl; have hfz32_0 := blk_frozen BK246.out 0; have hfz32_1 := blk_frozen BK246.out 1; have hfz32_2 := blk_frozen BK246.out 2; obtain ⟨Ao33, co33, eo33⟩ := Kd.V_slice HO244.out; subst eo33))
                (try simp only [Act.put, List.setIfInBounds_toArray, List.set_cons_zero, List.set_cons_succ])
                go_cut [64] (fun v64 wc => ∃ (kq : Nat) (x64_21 : Bool), v64 = .bool x64_21 ∧ Aside0 (portreevelaw09_PackBack.j1 kq l2 t226 t230 x64_21 a0_0 a0_1 l0_2 = some r) ∧ Aside0 (kq ≤ kj4) ∧ Aside0 (Kd.V (Kd.int .u8) 5 wc w.heap.size (fun k_ => k_ ≠ gb225 ∧ k_ ≠ gb246) (.slice Ao33 t242.length co33) t242) ∧ Aside0 (wc.heap[gb225]? = some (.cells #[.int .u8 a0_0, .int .u8 a0_1, (.slice A0_2 l0_2.length c0_2)] 24 (0, 0))) ∧ Aside0 (wc.heap[gb246]? = some (.cells #[.int .u8 t240, .int .u8 t241, (.slice Ao33 t242.length co33)] 24 (0, 0))) ∧ Aside0 (Below w.heap.size w wc))
                case first =>
                  have H := HC22.out
                  clear HC22
                  by_cases c34 : t245 = 0
                  · rw [if_pos c34] at H
                    have c34b0 : (t245 == 0) = true := beq_iff_eq.mpr c34
                    have c34b1 : (t245 != 0) = false := bne_eq_false_iff_eq.mpr c34
                    clear c34
                    (first | rw [c34b0] | (simp only [i64_w, i32_w]; rw [c34b0]) | skip)
                    replace H := Option.bind_eq_some_iff.mp H
                    obtain ⟨t247, A350, H⟩ := H
                    replace H : (if t247 = true then (portreevelaw09_PackBack.j1 kj4 l2 t226 t230 ((t227.length : Int) != (wrap64 (4 + (l0_2.length : Int)))) a0_0 a0_1 l0_2) else (portreevelaw09_PackBack.j1 kj4 l2 t226 t230 true a0_0 a0_1 l0_2)) = some r := H
                    have A35 := Aside0.mk A350
                    clear A350
                    by_cases c36 : t247 = true
                    · subst c36
                      have H1 : (portreevelaw09_PackBack.j1 kj4 l2 t226 t230 ((t227.length : Int) != (wrap64 (4 + (l0_2.length : Int)))) a0_0 a0_1 l0_2) = some r := by rw [if_pos rfl] at H; exact H
                      clear H
                      have H := H1
                      clear H1
                      have H' := Aside0.mk H
                      clear H
                      have hnb37 := NB225_246.out
                      have hnc37 := NB246_225.out
                      have hcz38_0 : w30.cell? ⟨gb225, 0, none⟩ = some (.int .u8 a0_0) := (blk_cell BK225.out 0).trans rfl
                      have hcz38_1 : w30.cell? ⟨gb225, 1, none⟩ = some (.int .u8 a0_1) := (blk_cell BK225.out 1).trans rfl
                      have hcz38_2 : w30.cell? ⟨gb225, 2, none⟩ = some (.slice A0_2 l0_2.length c0_2) := (blk_cell BK225.out 2).trans rfl
                      have hfz38_0 := blk_frozen BK225.out 0
                      have hfz38_1 := blk_frozen BK225.out 1
                      have hfz38_2 := blk_frozen BK225.out 2
                      have hcz39_0 : w30.cell? ⟨gb246, 0, none⟩ = some (.int .u8 0) := (blk_cell BK246.out 0).trans rfl
                      have hcz39_1 : w30.cell? ⟨gb246, 1, none⟩ = some (.int .u8 0) := (blk_cell BK246.out 1).trans rfl
                      have hcz39_2 : w30.cell? ⟨gb246, 2, none⟩ = some (.slice none 0 0) := (blk_cell BK246.out 2).trans rfl
                      have hfz39_0 := blk_frozen BK246.out 0
                      have hfz39_1 := blk_frozen BK246.out 1
                      have hfz39_2 := blk_frozen BK246.out 2
                      go_wp2_with (first | (go_at_call 14; (with_reducible refine (portreeveref09_Same.calls kj4 a0_0 a0_1 _ _ l0_2 t240 t241 _ _ t242 true _ ?side1 ?side2 ?side3 ?side4 A35.out).mono ?_); (case side1 => exact Kd.C_below HR0_2.out (by repeat (first | (with_reducible first | exact HB.out | apply pA | apply pN | apply pD | refine pS ?_ GE225.out | refine pS ?_ GE246.out) | exact HB.out))); (case side2 => exact HC0_2.out); (case side3 => refine (Kd.V_reads' (e := 5) (base := w.heap.size) (ok := fun k_ => ((some k_ ≠ (.slice Ao26 t227.length co26 : Value).ownBlock ∧ k_ ≠ gb225) ∧ k_ ≠ gb246)) (n := t242.length) (c := co33) ?_).2.2; exact (by (with_reducible repeat (first | apply Kd.V_alloc | apply Kd.V_drewN | apply Kd.V_drew)); exact (Kd.V_mono (Kd.V_far (p := ⟨gb246, 2, none⟩) (Kd.V_far (p := ⟨gb246, 1, none⟩) (Kd.V_far (p := ⟨gb246, 0, none⟩) (Kd.V_mono HO244.out (fun k_ hk => (⟨hk, hk.2⟩ : _ ∧ k_ ≠ gb246))) (fun _ hk => hk.2) (.int .u8 t240)) (fun _ hk => hk.2) (.int .u8 t241)) (fun _ hk => hk.2) (.slice Ao33 t242.length co33)) (fun _ h_ => h_.1)))); (case side4 => exact (Kd.V_reads' HO244.out).2.1); rintro e w40 ⟨rfl, hb⟩; have n0_ := Aside0.mk (Kd.R_below (by (with_reducible repeat (first | apply Kd.R_alloc | apply Kd.R_drewN | apply Kd.R_drew)); exact (Kd.R_mono (Kd.R_far (p := ⟨gb246, 2, none⟩) (Kd.R_far (p := ⟨gb246, 1, none⟩) (Kd.R_far (p := ⟨gb246, 0, none⟩) (Kd.R_types HO229.out BK246.out (by decide)) (fun _ hk => hk.2) (.int .u8 t240)) (fun _ hk => hk.2) (.int .u8 t241)) (fun _ hk => hk.2) (.slice Ao33 t242.length co33)) (fun _ h_ => h_.1))) hb); have n1_ := Aside0.mk (Kd.R_below (by (with_reducible repeat (first | apply Kd.R_alloc | apply Kd.R_drewN | apply Kd.R_drew)); exact (Kd.R_mono (Kd.R_far (p := ⟨gb246, 2, none⟩) (Kd.R_far (p := ⟨gb246, 1, none⟩) (Kd.R_far (p := ⟨gb246, 0, none⟩) (Kd.R_types HO239.out BK246.out (by decide)) (fun _ hk => hk.2) (.int .u8 t240)) (fun _ hk => hk.2) (.int .u8 t241)) (fun _ hk => hk.2) (.slice Ao33 t242.length co33)) (fun _ h_ => h_.1))) hb); have n2_ := Aside0.mk (Kd.V_below (by (with_reducible repeat (first | apply Kd.V_alloc | apply Kd.V_drewN | apply Kd.V_drew)); exact (Kd.V_mono (Kd.V_far (p := ⟨gb246, 2, none⟩) (Kd.V_far (p := ⟨gb246, 1, none⟩) (Kd.V_far (p := ⟨gb246, 0, none⟩) (Kd.V_mono HO244.out (fun k_ hk => (⟨hk, hk.2⟩ : _ ∧ k_ ≠ gb246))) (fun _ hk => hk.2) (.int .u8 t240)) (fun _ hk => hk.2) (.int .u8 t241)) (fun _ hk => hk.2) (.slice Ao33 t242.length co33)) (fun _ h_ => h_.1))) hb); have n3_ := Aside0.mk (blk_below (g := gb225) (o := .cells #[.int .u8 a0_0, .int .u8 a0_1, .slice A0_2 l0_2.length c0_2] 24 (0, 0)) (by (with_reducible repeat (first | refine qN ?_ _ | refine qD ?_ | refine qA ?_ _)); refine blk_far ?_ NB225_246.out _; (with_reducible repeat (first | refine qN ?_ _ | refine qD ?_ | refine qA ?_ _)); refine blk_far ?_ NB225_246.out _; (with_reducible repeat (first | refine qN ?_ _ | refine qD ?_ | refine qA ?_ _)); refine blk_far ?_ NB225_246.out _; (with_reducible repeat (first | refine qN ?_ _ | refine qD ?_ | refine qA ?_ _)); exact BK225.out) hb); have n4_ := Aside0.mk (blk_below (g := gb246) (o := .cells #[.int .u8 t240, .int .u8 t241, .slice Ao33 t242.length co33] 24 (0, 0)) (by (with_reducible repeat (first | refine qN ?_ _ | refine qD ?_ | refine qA ?_ _)); refine blk_put (cs := #[.int .u8 t240, .int .u8 t241, .slice none 0 0]) ?_ 2 _ rfl; (with_reducible repeat (first | refine qN ?_ _ | refine qD ?_ | refine qA ?_ _)); refine blk_put (cs := #[.int .u8 t240, .int .u8 0, .slice none 0 0]) ?_ 1 _ rfl; (with_reducible repeat (first | refine qN ?_ _ | refine qD ?_ | refine qA ?_ _)); refine blk_put (cs := #[.int .u8 0, .int .u8 0, .slice none 0 0]) ?_ 0 _ rfl; (with_reducible repeat (first | refine qN ?_ _ | refine qD ?_ | refine qA ?_ _)); exact BK246.out) hb); have n5_ := Aside0.mk (below_step (by repeat (first | (with_reducible first | exact HB.out | apply pA | apply pN | apply pD | refine pS ?_ GE225.out | refine pS ?_ GE246.out) | exact HB.out)) hb); clear HO229; clear HO239; clear HO244; clear BK225; clear BK246; clear HB; have HO229 := n0_; have HO239 := n1_; have HO244 := n2_; have BK225 := n3_; have BK246 := n4_; have HB := n5_; clear n0_ n1_ n2_ n3_ n4_ n5_; (try clear hb); (try clear hb2); (try clear hk); (try clear hi); have hcz41_0 : w40.cell? ⟨gb225, 0, none⟩ = some (.int .u8 a0_0) := (blk_cell BK225.out 0).trans rfl; have hcz41_1 : w40.cell? ⟨gb225, 1, none⟩ = some (.int .u8 a0_1) := (blk_cell BK225.out 1).trans rfl; have hcz41_2 : w40.cell? ⟨gb225, 2, none⟩ = some (.slice A0_2 l0_2.length c0_2) := (blk_cell BK225.out 2).trans rfl; have hfz41_0 := blk_frozen BK225.out 0; have hfz41_1 := blk_frozen BK225.out 1; have hfz41_2 := blk_frozen BK225.out 2))
                      go_meet
                      case rel => exact ⟨_, (((t227.length : Int) != (wrap64 (4 + (l0_2.length : Int))))), (by first | rfl | (simp; done) | (simp [*]; done)), H', ⟨by have := HJ4.out; first | omega | exact Nat.le_refl _⟩, ⟨by (with_reducible repeat (first | apply Kd.V_alloc | apply Kd.V_drewN | apply Kd.V_drew)); exact Kd.V_mono HO244.out (fun _ hk => ⟨hk.1.2, hk.2⟩)⟩, ⟨by (with_reducible repeat (first | refine qN ?_ _ | refine qD ?_ | refine qA ?_ _)); exact BK225.out⟩, ⟨by (with_reducible repeat (first | refine qN ?_ _ | refine qD ?_ | refine qA ?_ _)); exact BK246.out⟩, ⟨by repeat (first | (with_reducible first | exact HB.out | apply pA | apply pN | apply pD | refine pS ?_ GE225.out | refine pS ?_ GE246.out) | exact HB.out)⟩⟩
                    · replace c36 := Bool.eq_false_iff.mpr c36
                      subst c36
                      have H1 : (portreevelaw09_PackBack.j1 kj4 l2 t226 t230 true a0_0 a0_1 l0_2) = some r := by rw [if_neg (show ¬ (false = true) by decide)] at H; exact H
                      clear H
                      have H := H1
                      clear H1
                      have H' := Aside0.mk H
                      clear H
                      have hnb42 := NB225_246.out
                      have hnc42 := NB246_225.out
                      have hcz43_0 : w30.cell? ⟨gb225, 0, none⟩ = some (.int .u8 a0_0) := (blk_cell BK225.out 0).trans rfl
                      have hcz43_1 : w30.cell? ⟨gb225, 1, none⟩ = some (.int .u8 a0_1) := (blk_cell BK225.out 1).trans rfl
                      have hcz43_2 : w30.cell? ⟨gb225, 2, none⟩ = some (.slice A0_2 l0_2.length c0_2) := (blk_cell BK225.out 2).trans rfl
                      have hfz43_0 := blk_frozen BK225.out 0
                      have hfz43_1 := blk_frozen BK225.out 1
                      have hfz43_2 := blk_frozen BK225.out 2
                      have hcz44_0 : w30.cell? ⟨gb246, 0, none⟩ = some (.int .u8 0) := (blk_cell BK246.out 0).trans rfl
                      have hcz44_1 : w30.cell? ⟨gb246, 1, none⟩ = some (.int .u8 0) := (blk_cell BK246.out 1).trans rfl
                      have hcz44_2 : w30.cell? ⟨gb246, 2, none⟩ = some (.slice none 0 0) := (blk_cell BK246.out 2).trans rfl
                      have hfz44_0 := blk_frozen BK246.out 0
                      have hfz44_1 := blk_frozen BK246.out 1
                      have hfz44_2 := blk_frozen BK246.out 2
                      go_wp2_with (first | (go_at_call 14; (with_reducible refine (portreeveref09_Same.calls kj4 a0_0 a0_1 _ _ l0_2 t240 t241 _ _ t242 false _ ?side1 ?side2 ?side3 ?side4 A35.out).mono ?_); (case side1 => exact Kd.C_below HR0_2.out (by repeat (first | (with_reducible first | exact HB.out | apply pA | apply pN | apply pD | refine pS ?_ GE225.out | refine pS ?_ GE246.out) | exact HB.out))); (case side2 => exact HC0_2.out); (case side3 => refine (Kd.V_reads' (e := 5) (base := w.heap.size) (ok := fun k_ => ((some k_ ≠ (.slice Ao26 t227.length co26 : Value).ownBlock ∧ k_ ≠ gb225) ∧ k_ ≠ gb246)) (n := t242.length) (c := co33) ?_).2.2; exact (by (with_reducible repeat (first | apply Kd.V_alloc | apply Kd.V_drewN | apply Kd.V_drew)); exact (Kd.V_mono (Kd.V_far (p := ⟨gb246, 2, none⟩) (Kd.V_far (p := ⟨gb246, 1, none⟩) (Kd.V_far (p := ⟨gb246, 0, none⟩) (Kd.V_mono HO244.out (fun k_ hk => (⟨hk, hk.2⟩ : _ ∧ k_ ≠ gb246))) (fun _ hk => hk.2) (.int .u8 t240)) (fun _ hk => hk.2) (.int .u8 t241)) (fun _ hk => hk.2) (.slice Ao33 t242.length co33)) (fun _ h_ => h_.1)))); (case side4 => exact (Kd.V_reads' HO244.out).2.1); rintro e w45 ⟨rfl, hb⟩; have n0_ := Aside0.mk (Kd.R_below (by (with_reducible repeat (first | apply Kd.R_alloc | apply Kd.R_drewN | apply Kd.R_drew)); exact (Kd.R_mono (Kd.R_far (p := ⟨gb246, 2, none⟩) (Kd.R_far (p := ⟨gb246, 1, none⟩) (Kd.R_far (p := ⟨gb246, 0, none⟩) (Kd.R_types HO229.out BK246.out (by decide)) (fun _ hk => hk.2) (.int .u8 t240)) (fun _ hk => hk.2) (.int .u8 t241)) (fun _ hk => hk.2) (.slice Ao33 t242.length co33)) (fun _ h_ => h_.1))) hb); have n1_ := Aside0.mk (Kd.R_below (by (with_reducible repeat (first | apply Kd.R_alloc | apply Kd.R_drewN | apply Kd.R_drew)); exact (Kd.R_mono (Kd.R_far (p := ⟨gb246, 2, none⟩) (Kd.R_far (p := ⟨gb246, 1, none⟩) (Kd.R_far (p := ⟨gb246, 0, none⟩) (Kd.R_types HO239.out BK246.out (by decide)) (fun _ hk => hk.2) (.int .u8 t240)) (fun _ hk => hk.2) (.int .u8 t241)) (fun _ hk => hk.2) (.slice Ao33 t242.length co33)) (fun _ h_ => h_.1))) hb); have n2_ := Aside0.mk (Kd.V_below (by (with_reducible repeat (first | apply Kd.V_alloc | apply Kd.V_drewN | apply Kd.V_drew)); exact (Kd.V_mono (Kd.V_far (p := ⟨gb246, 2, none⟩) (Kd.V_far (p := ⟨gb246, 1, none⟩) (Kd.V_far (p := ⟨gb246, 0, none⟩) (Kd.V_mono HO244.out (fun k_ hk => (⟨hk, hk.2⟩ : _ ∧ k_ ≠ gb246))) (fun _ hk => hk.2) (.int .u8 t240)) (fun _ hk => hk.2) (.int .u8 t241)) (fun _ hk => hk.2) (.slice Ao33 t242.length co33)) (fun _ h_ => h_.1))) hb); have n3_ := Aside0.mk (blk_below (g := gb225) (o := .cells #[.int .u8 a0_0, .int .u8 a0_1, .slice A0_2 l0_2.length c0_2] 24 (0, 0)) (by (with_reducible repeat (first | refine qN ?_ _ | refine qD ?_ | refine qA ?_ _)); refine blk_far ?_ NB225_246.out _; (with_reducible repeat (first | refine qN ?_ _ | refine qD ?_ | refine qA ?_ _)); refine blk_far ?_ NB225_246.out _; (with_reducible repeat (first | refine qN ?_ _ | refine qD ?_ | refine qA ?_ _)); refine blk_far ?_ NB225_246.out _; (with_reducible repeat (first | refine qN ?_ _ | refine qD ?_ | refine qA ?_ _)); exact BK225.out) hb); have n4_ := Aside0.mk (blk_below (g := gb246) (o := .cells #[.int .u8 t240, .int .u8 t241, .slice Ao33 t242.length co33] 24 (0, 0)) (by (with_reducible repeat (first | refine qN ?_ _ | refine qD ?_ | refine qA ?_ _)); refine blk_put (cs := #[.int .u8 t240, .int .u8 t241, .slice none 0 0]) ?_ 2 _ rfl; (with_reducible repeat (first | refine qN ?_ _ | refine qD ?_ | refine qA ?_ _)); refine blk_put (cs := #[.int .u8 t240, .int .u8 0, .slice none 0 0]) ?_ 1 _ rfl; (with_reducible repeat (first | refine qN ?_ _ | refine qD ?_ | refine qA ?_ _)); refine blk_put (cs := #[.int .u8 0, .int .u8 0, .slice none 0 0]) ?_ 0 _ rfl; (with_reducible repeat (first | refine qN ?_ _ | refine qD ?_ | refine qA ?_ _)); exact BK246.out) hb); have n5_ := Aside0.mk (below_step (by repeat (first | (with_reducible first | exact HB.out | apply pA | apply pN | apply pD | refine pS ?_ GE225.out | refine pS ?_ GE246.out) | exact HB.out)) hb); clear HO229; clear HO239; clear HO244; clear BK225; clear BK246; clear HB; have HO229 := n0_; have HO239 := n1_; have HO244 := n2_; have BK225 := n3_; have BK246 := n4_; have HB := n5_; clear n0_ n1_ n2_ n3_ n4_ n5_; (try clear hb); (try clear hb2); (try clear hk); (try clear hi)))
                      go_meet
                      case rel => exact ⟨_, (true), (by first | rfl | (simp; done) | (simp [*]; done)), H', ⟨by have := HJ4.out; first | omega | exact Nat.le_refl _⟩, ⟨by (with_reducible repeat (first | apply Kd.V_alloc | apply Kd.V_drewN | apply Kd.V_drew)); exact Kd.V_mono HO244.out (fun _ hk => ⟨hk.1.2, hk.2⟩)⟩, ⟨by (with_reducible repeat (first | refine qN ?_ _ | refine qD ?_ | refine qA ?_ _)); exact BK225.out⟩, ⟨by (with_reducible repeat (first | refine qN ?_ _ | refine qD ?_ | refine qA ?_ _)); exact BK246.out⟩, ⟨by repeat (first | (with_reducible first | exact HB.out | apply pA | apply pN | apply pD | refine pS ?_ GE225.out | refine pS ?_ GE246.out) | exact HB.out)⟩⟩
                  · rw [if_neg c34] at H
                    have c34b0 : (t245 == 0) = false := beq_eq_false_iff_ne.mpr c34
                    have c34b1 : (t245 != 0) = true := bne_iff_ne.mpr c34
                    (first | rw [c34b0] | (simp only [i64_w, i32_w]; rw [c34b0]) | skip)
                    have H' := Aside0.mk H
                    clear H
                    go_wp2
                    go_meet
                    case rel => exact ⟨_, (true), (by first | rfl | (simp; done) | (simp [*]; done)), H', ⟨by have := HJ4.out; first | omega | exact Nat.le_refl _⟩, ⟨by (with_reducible repeat (first | apply Kd.V_alloc | apply Kd.V_drewN | apply Kd.V_drew)); exact Kd.V_mono (Kd.V_far (p := ⟨gb246, 2, none⟩) (Kd.V_far (p := ⟨gb246, 1, none⟩) (Kd.V_far (p := ⟨gb246, 0, none⟩) (Kd.V_mono HO244.out (fun k_ hk => (⟨hk, hk.2⟩ : _ ∧ k_ ≠ gb246))) (fun _ hk => hk.2) (.int .u8 t240)) (fun _ hk => hk.2) (.int .u8 t241)) (fun _ hk => hk.2) (.slice Ao33 t242.length co33)) (fun _ hk => ⟨hk.1.1.2, hk.1.2⟩)⟩, ⟨by (with_reducible repeat (first | refine qN ?_ _ | refine qD ?_ | refine qA ?_ _)); refine blk_far ?_ NB225_246.out _; (with_reducible repeat (first | refine qN ?_ _ | refine qD ?_ | refine qA ?_ _)); refine blk_far ?_ NB225_246.out _; (with_reducible repeat (first | refine qN ?_ _ | refine qD ?_ | refine qA ?_ _)); refine blk_far ?_ NB225_246.out _; (with_reducible repeat (first | refine qN ?_ _ | refine qD ?_ | refine qA ?_ _)); exact BK225.out⟩, ⟨by (with_reducible repeat (first | refine qN ?_ _ | refine qD ?_ | refine qA ?_ _)); refine blk_put (cs := #[.int .u8 t240, .int .u8 t241, .slice none 0 0]) ?_ 2 _ rfl; (with_reducible repeat (first | refine qN ?_ _ | refine qD ?_ | refine qA ?_ _)); refine blk_put (cs := #[.int .u8 t240, .int .u8 0, .slice none 0 0]) ?_ 1 _ rfl; (with_reducible repeat (first | refine qN ?_ _ | refine qD ?_ | refine qA ?_ _)); refine blk_put (cs := #[.int .u8 0, .int .u8 0, .slice none 0 0]) ?_ 0 _ rfl; (with_reducible repeat (first | refine qN ?_ _ | refine qD ?_ | refine qA ?_ _)); exact BK246.out⟩, ⟨by repeat (first | (with_reducible first | exact HB.out | apply pA | apply pN | apply pD | refine pS ?_ GE225.out | refine pS ?_ GE246.out) | exact HB.out)⟩⟩
                case rest =>
                  clear HC22
                  try clear c1
                  try clear c2
                  try clear p2
                  try clear c3
                  try clear c4
                  try clear p6
                  try clear c8
                  try clear c8b0
                  try clear c8b1
                  try clear c9
                  try clear c10
                  try clear c10b0
                  try clear c10b1
                  try clear c11
                  try clear c13
                  try clear c18
                  try clear c18b0
                  try clear c18b1
                  try clear c19
                  try clear c20
                  try clear c31
                  try clear c34
                  try clear c34b0
                  try clear c34b1
                  try clear c36
                  try clear c37
                  try clear c42
                  try clear hcz11_0
                  try clear hcz11_1
                  try clear hcz11_2
                  try clear hcz12_0
                  try clear hcz12_1
                  try clear hcz12_2
                  try clear hcz16_0
                  try clear hcz16_1
                  try clear hcz16_2
                  try clear hcz32_0
                  try clear hcz32_1
                  try clear hcz32_2
                  try clear hcz38_0
                  try clear hcz38_1
                  try clear hcz38_2
                  try clear hcz39_0
                  try clear hcz39_1
                  try clear hcz39_2
                  try clear hcz41_0
                  try clear hcz41_1
                  try clear hcz41_2
                  try clear hcz43_0
                  try clear hcz43_1
                  try clear hcz43_2
                  try clear hcz44_0
                  try clear hcz44_1
                  try clear hcz44_2
                  try clear hcz9_0
                  try clear hcz9_1
                  try clear hcz9_2
                  try clear hfz11_0
                  try clear hfz11_1
                  try clear hfz11_2
                  try clear hfz12_0
                  try clear hfz12_1
                  try clear hfz12_2
                  try clear hfz16_0
                  try clear hfz16_1
                  try clear hfz16_2
                  try clear hfz32_0
                  try clear hfz32_1
                  try clear hfz32_2
                  try clear hfz38_0
                  try clear hfz38_1
                  try clear hfz38_2
                  try clear hfz39_0
                  try clear hfz39_1
                  try clear hfz39_2
                  try clear hfz41_0
                  try clear hfz41_1
                  try clear hfz41_2
                  try clear hfz43_0
                  try clear hfz43_1
                  try clear hfz43_2
                  try clear hfz44_0
                  try clear hfz44_1
                  try clear hfz44_2
                  try clear hfz9_0
                  try clear hfz9_1
                  try clear hfz9_2
                  try clear p2
                  obtain ⟨kq, x64_21, rfl, HA, HJ21, HO_247002, BK225, BK246, HB⟩ := hcut
                  cases kq with
                  | zero => exact absurd HA.out (by simp [portreevelaw09_PackBack.j1])
                  | succ kj21 =>
                    have H := HA.out
                    clear HA
                    simp only [portreevelaw09_PackBack.j1] at H
                    by_cases c46 : x64_21 = true
                    · subst c46
                      have H1 : (some false) = some r := by rw [if_pos rfl] at H; exact H
                      clear H
                      have H := H1
                      clear H1
                      exact absurd ((Option.some.inj H).trans hlaw_.out) (by decide)
                    · replace c46 := Bool.eq_false_iff.mpr c46
                      subst c46
                      have H1 : (portreevelaw09_PackBack.j2 kj21 l2 t226 t230 a0_0 a0_1 l0_2) = some r := by rw [if_neg (show ¬ (false = true) by decide)] at H; exact H
                      clear H
                      have H := H1
                      clear H1
                      have H' := Aside0.mk H
                      clear H
                      go_wp2
                      go_meet
                      case rel => exact ⟨_, H', ⟨by have := HJ4.out; have := HJ21.out; first | omega | exact Nat.le_refl _⟩, ⟨by (with_reducible repeat (first | refine qN ?_ _ | refine qD ?_ | refine qA ?_ _)); exact BK225.out⟩, ⟨by repeat (first | (with_reducible first | exact HB.out | apply pA | apply pN | apply pD | refine pS ?_ GE225.out | refine pS ?_ GE246.out) | exact HB.out)⟩⟩
              · rw [if_neg c20] at H
                exact absurd H (by simp)
            · rw [if_neg c19] at H
              exact absurd H (by simp)
          · rw [if_neg c18] at H
            have c18b0 : (t230 == 0) = false := beq_eq_false_iff_ne.mpr c18
            have c18b1 : (t230 != 0) = true := bne_iff_ne.mpr c18
            (first | rw [c18b0] | (simp only [i64_w, i32_w]; rw [c18b0]) | skip)
            have H' := Aside0.mk H
            clear H
            go_wp2
            go_meet
            case rel => exact ⟨_, H', ⟨by have := HJ4.out; first | omega | exact Nat.le_refl _⟩, ⟨by (with_reducible repeat (first | refine qN ?_ _ | refine qD ?_ | refine qA ?_ _)); exact BK225.out⟩, ⟨by repeat (first | (with_reducible first | exact HB.out | apply pA | apply pN | apply pD | refine pS ?_ GE225.out) | exact HB.out)⟩⟩
        case rest =>
          clear HC15
          try clear c1
          try clear c2
          try clear p2
          try clear c3
          try clear c4
          try clear p6
          try clear c8
          try clear c8b0
          try clear c8b1
          try clear c9
          try clear c10
          try clear c10b0
          try clear c10b1
          try clear c11
          try clear c13
          try clear c18
          try clear c18b0
          try clear c18b1
          try clear c19
          try clear c20
          try clear c31
          try clear c34
          try clear c34b0
          try clear c34b1
          try clear c36
          try clear c37
          try clear c42
          try clear c46
          try clear hcz11_0
          try clear hcz11_1
          try clear hcz11_2
          try clear hcz12_0
          try clear hcz12_1
          try clear hcz12_2
          try clear hcz16_0
          try clear hcz16_1
          try clear hcz16_2
          try clear hcz32_0
          try clear hcz32_1
          try clear hcz32_2
          try clear hcz38_0
          try clear hcz38_1
          try clear hcz38_2
          try clear hcz39_0
          try clear hcz39_1
          try clear hcz39_2
          try clear hcz41_0
          try clear hcz41_1
          try clear hcz41_2
          try clear hcz43_0
          try clear hcz43_1
          try clear hcz43_2
          try clear hcz44_0
          try clear hcz44_1
          try clear hcz44_2
          try clear hcz9_0
          try clear hcz9_1
          try clear hcz9_2
          try clear hfz11_0
          try clear hfz11_1
          try clear hfz11_2
          try clear hfz12_0
          try clear hfz12_1
          try clear hfz12_2
          try clear hfz16_0
          try clear hfz16_1
          try clear hfz16_2
          try clear hfz32_0
          try clear hfz32_1
          try clear hfz32_2
          try clear hfz38_0
          try clear hfz38_1
          try clear hfz38_2
          try clear hfz39_0
          try clear hfz39_1
          try clear hfz39_2
          try clear hfz41_0
          try clear hfz41_1
          try clear hfz41_2
          try clear hfz43_0
          try clear hfz43_1
          try clear hfz43_2
          try clear hfz44_0
          try clear hfz44_1
          try clear hfz44_2
          try clear hfz9_0
          try clear hfz9_1
          try clear hfz9_2
          try clear p2
          try clear p6
          obtain ⟨kq, HA, HJ14, BK225, HB⟩ := hcut
          cases kq with
          | zero => exact absurd HA.out (by simp [portreevelaw09_PackBack.j2])
          | succ kj14 =>
            have H := HA.out
            clear HA
            simp only [portreevelaw09_PackBack.j2] at H
            replace H := Option.bind_eq_some_iff.mp H
            obtain ⟨⟨t248, t249, t250, t253⟩, A470, H⟩ := H
            replace H : (if t253 = 0 then ((pack_Bytes.f t248 t249 t250).bind fun bt256 => (if t226 = true then (if bt256.2 = 0 then (if (bt256.1.length : Int) ≤ (l2.length : Int) then (if 0 ≤ (bt256.1.length : Int) then ((portreeveref01_Row.f kj14 bt256.1 (l2.take ((bt256.1.length : Int) : Int).toNat)).bind fun t261 => (some t261)) else (none)) else (some false)) else (some false)) else (some false))) else (if t226 = true then (if t253 = 2 then ((portreeveref09_Same.f kj14 t248 t249 t250 0 0 ([] : List Int)).bind fun t255 => (if t255 = true then (some ((t230 == 0) == (decide ((l0_2.length : Int) ≤ 1496)))) else (some false))) else (some false)) else (some false))) = some r := H
            have A47 := Aside0.mk A470
            clear A470
            by_cases c48 : t253 = 0
            · rw [if_pos c48] at H
              have c48b0 : (t253 == 0) = true := beq_iff_eq.mpr c48
              have c48b1 : (t253 != 0) = false := bne_eq_false_iff_eq.mpr c48
              clear c48
              replace H := Option.bind_eq_some_iff.mp H
              obtain ⟨⟨t256, t259⟩, A490, H⟩ := H
              replace H : (if t226 = true then (if t259 = 0 then (if (t256.length : Int) ≤ (l2.length : Int) then (if 0 ≤ (t256.length : Int) then ((portreeveref01_Row.f kj14 t256 (l2.take ((t256.length : Int) : Int).toNat)).bind fun t261 => (some t261)) else (none)) else (some false)) else (some false)) else (some false)) = some r := H
              have A49 := Aside0.mk A490
              clear A490
              by_cases c50 : t226 = true
              · subst c50
                have H1 : (if t259 = 0 then (if (t256.length : Int) ≤ (l2.length : Int) then (if 0 ≤ (t256.length : Int) then ((portreeveref01_Row.f kj14 t256 (l2.take ((t256.length : Int) : Int).toNat)).bind fun t261 => (some t261)) else (none)) else (some false)) else (some false)) = some r := by rw [if_pos rfl] at H; exact H
                clear H
                have H := H1
                clear H1
                by_cases c51 : t259 = 0
                · rw [if_pos c51] at H
                  have c51b0 : (t259 == 0) = true := beq_iff_eq.mpr c51
                  have c51b1 : (t259 != 0) = false := bne_eq_false_iff_eq.mpr c51
                  clear c51
                  by_cases c52 : (t256.length : Int) ≤ (l2.length : Int)
                  · rw [if_pos c52] at H
                    have c52b0 : decide ((t256.length : Int) ≤ (l2.length : Int)) = true := decide_eq_true c52
                    have c52b1 : decide (t256.length ≤ l2.length) = true := decide_eq_true (Int.ofNat_le.mp c52)
                    clear c52
                    by_cases c53 : 0 ≤ (t256.length : Int)
                    · rw [if_pos c53] at H
                      have c53b0 := eq_true c53
                      have c53b1 : decide (0 ≤ (t256.length : Int)) = true := decide_eq_true c53
                      clear c53
                      have c54b0 := eq_true (of_decide_eq_true (by first | (with_reducible assumption) | assumption) : (t256.length : Int) ≤ (l2.length : Int))
                      replace H := Option.bind_eq_some_iff.mp H
                      obtain ⟨t261, A550, H⟩ := H
                      replace H : (some t261) = some r := H
                      have A55 := Aside0.mk A550
                      clear A550
                      clear hlaw_
                      obtain rfl := Option.some.inj H
                      go_wp2_with (first | ((with_reducible refine gate_callee (f := 11) rfl ?_); refine goesL_ (some 67) rfl rfl Try.func11 (by kernel_rfl) rfl #[.slice A2 l2.length c2] rfl (by (try simp only [List.map_toArray, List.map_cons, List.map_nil]); first | done | rfl | (simp only [List.length_drop, List.length_take]; rfl)) ?_; (with_reducible refine (pack_Read.calls kj14 (fun k_ => k_ < w.heap.size) _ _ l2 t248 t249 t250 t253 _ ?side1 A47.out).mono ?_); (case side1 => exact Kd.V_mk HC2.out (Kd.F_below (Kd.C_F (Kd.heap_int .u8) HR2.out) (by repeat (first | (with_reducible first | exact HB.out | apply pA | apply pN | apply pD | refine pS ?_ GE225.out) | exact HB.out)))); rintro e w56 ⟨v251, rfl, ho0, hb⟩; refine ⟨_, rfl, ?_⟩; have n0_ := Aside0.mk (Kd.V_lower (Kd.V_mono (ok' := fun k_ => k_ ≠ gb225) ho0 (fun k_ hk_ => Or.elim hk_ (fun hs_ => fun e_ => Nat.not_le.2 hs_ (by rw [e_]; exact GW225.out)) (fun hn_ => (Kd.freshB (g := gb225) (o := .cells #[.int .u8 a0_0, .int .u8 a0_1, .slice A0_2 l0_2.length c0_2] 24 (0, 0)) (by (with_reducible repeat (first | refine qN ?_ _ | refine qD ?_ | refine qA ?_ _)); exact BK225.out) k_ hn_)))) (below_size (by repeat (first | (with_reducible first | exact HB.out | apply pA | apply pN | apply pD | refine pS ?_ GE225.out) | exact HB.out)))); have n1_ := Aside0.mk (blk_below (g := gb225) (o := .cells #[.int .u8 a0_0, .int .u8 a0_1, .slice A0_2 l0_2.length c0_2] 24 (0, 0)) (by (with_reducible repeat (first | refine qN ?_ _ | refine qD ?_ | refine qA ?_ _)); exact BK225.out) hb); have n2_ := Aside0.mk (below_step (by repeat (first | (with_reducible first | exact HB.out | apply pA | apply pN | apply pD | refine pS ?_ GE225.out) | exact HB.out)) hb); clear BK225; clear HB; have HO252 := n0_; have BK225 := n1_; have HB := n2_; clear n0_ n1_ n2_; (try clear hb); (try clear hb2); (try clear hk); (try clear hi); (try clear ho0)) | ((with_reducible refine gate_dst (N := 12) rfl ?_); (try (refine gate_guard (by rfl) ?_; dsimp only)); refine box_event ?hg (N := 12) ?hd (cs := #[.int .u8 0, .int .u8 0, .slice none 0 0]) (t := 24) ?hr ?_; (case hd => rfl); (case hg => rfl); (case hr => first | (go_simp; done) | (go_simp; rfl)); intro gb254 hg w57 hbox hb; have n0_ := Aside0.mk (Kd.V_below (Kd.V_elderB (by (with_reducible repeat (first | apply Kd.V_alloc | apply Kd.V_drewN | apply Kd.V_drew)); exact HO252.out) gb254 (Nat.le_of_eq hg.symm)) hb); have n1_ := Aside0.mk (blk_below (g := gb225) (o := .cells #[.int .u8 a0_0, .int .u8 a0_1, .slice A0_2 l0_2.length c0_2] 24 (0, 0)) (by (with_reducible repeat (first | refine qN ?_ _ | refine qD ?_ | refine qA ?_ _)); exact BK225.out) hb); have n2_ := Aside0.mk (below_step (by repeat (first | (with_reducible first | exact HB.out | apply pA | apply pN | apply pD | refine pS ?_ GE225.out) | exact HB.out)) hb); have n3_ := Aside0.mk (hbox); have n4_ := Aside0.mk ((by rw [hg]; exact (below_size (by repeat (first | (with_reducible first | exact HB.out | apply pA | apply pN | apply pD | refine pS ?_ GE225.out) | exact HB.out))) : w.heap.size ≤ gb254)); have n5_ := Aside0.mk ((by rw [hg]; exact (below_size (by repeat (first | (with_reducible first | exact HB.out | apply pA | apply pN | apply pD | refine pS ?_ GE225.out) | exact HB.out))) : w.heap.size ≤ gb254)); have n6_ := Aside0.mk ((by rw [hg]; exact Nat.ne_of_lt (blk_lt (g := gb225) (o := .cells #[.int .u8 a0_0, .int .u8 a0_1, .slice A0_2 l0_2.length c0_2] 24 (0, 0)) (by (with_reducible repeat (first | refine qN ?_ _ | refine qD ?_ | refine qA ?_ _)); exact BK225.out)) : gb225 ≠ gb254)); have n7_ := Aside0.mk ((by rw [hg]; exact Nat.ne_of_gt (blk_lt (g := gb225) (o := .cells #[.int .u8 a0_0, .int .u8 a0_1, .slice A0_2 l0_2.length c0_2] 24 (0, 0)) (by (with_reducible repeat (first | refine qN ?_ _ | refine qD ?_ | refine qA ?_ _)); exact BK225.out)) : gb254 ≠ gb225)); clear HO252; clear BK225; clear HB; have HO252 := n0_; have BK225 := n1_; have HB := n2_; have BK254 := n3_; have GW254 := n4_; have GE254 := n5_; have NB225_254 := n6_; have NB254_225 := n7_; clear n0_ n1_ n2_ n3_ n4_ n5_ n6_ n7_; clear hb hbox hg; have hnb58 := NB254_225.out; have hnc58 := NB225_254.out; have hcz59_0 : w57.cell? ⟨gb254, 0, none⟩ = some (.int .u8 0) := (blk_cell BK254.out 0).trans rfl; have hcz59_1 : w57.cell? ⟨gb254, 1, none⟩ = some (.int .u8 0) := (blk_cell BK254.out 1).trans rfl; have hcz59_2 : w57.cell? ⟨gb254, 2, none⟩ = some (.slice none 0 0) := (blk_cell BK254.out 2).trans rfl; have hfz59_0 := blk_frozen BK254.out 0; have hfz59_1 := blk_frozen BK254.out 1; have hfz59_2 := blk_frozen BK254.out 2; obtain ⟨Ao60, co60, eo60⟩ := Kd.V_slice HO252.out; subst eo60) | ((with_reducible refine gate_callee (f := 9) rfl ?_); refine goesL_ (some 93) rfl rfl Try.func9 (by kernel_rfl) rfl #[.agg #[.int .u8 t248, .int .u8 t249, .slice Ao60 t250.length co60]] rfl (by (try simp only [List.map_toArray, List.map_cons, List.map_nil]); first | done | rfl | (simp only [List.length_drop, List.length_take]; rfl)) ?_; (with_reducible refine (pack_Bytes.calls t248 t249 _ _ t250 t256 t259 _ ?side1 ?side2 A49.out).mono ?_); (case side1 => refine (Kd.V_reads' (e := 5) (base := w.heap.size) (ok := fun k_ => (k_ ≠ gb225 ∧ k_ ≠ gb254)) (n := t250.length) (c := co60) ?_).2.2; exact (by (with_reducible repeat (first | apply Kd.V_alloc | apply Kd.V_drewN | apply Kd.V_drew)); exact (Kd.V_mono (Kd.V_far (p := ⟨gb254, 2, none⟩) (Kd.V_far (p := ⟨gb254, 1, none⟩) (Kd.V_far (p := ⟨gb254, 0, none⟩) (Kd.V_mono HO252.out (fun k_ hk => (⟨hk, hk.2⟩ : _ ∧ k_ ≠ gb254))) (fun _ hk => hk.2) (.int .u8 t248)) (fun _ hk => hk.2) (.int .u8 t249)) (fun _ hk => hk.2) (.slice Ao60 t250.length co60)) (fun _ h_ => h_.1)))); (case side2 => exact (Kd.V_reads' HO252.out).2.1); rintro e w61 ⟨v257, rfl, ho0, hb⟩; refine ⟨_, rfl, ?_⟩; have n0_ := Aside0.mk (Kd.V_elder' (by (with_reducible repeat (first | apply Kd.V_alloc | apply Kd.V_drewN | apply Kd.V_drew)); exact (Kd.V_mono (Kd.V_far (p := ⟨gb254, 2, none⟩) (Kd.V_far (p := ⟨gb254, 1, none⟩) (Kd.V_far (p := ⟨gb254, 0, none⟩) (Kd.V_mono HO252.out (fun k_ hk => (⟨hk, hk.2⟩ : _ ∧ k_ ≠ gb254))) (fun _ hk => hk.2) (.int .u8 t248)) (fun _ hk => hk.2) (.int .u8 t249)) (fun _ hk => hk.2) (.slice Ao60 t250.length co60)) (fun _ h_ => h_.1))) (Kd.R_base ho0) hb); have n1_ := Aside0.mk (Kd.R_lower ho0 (below_size (by repeat (first | (with_reducible first | exact HB.out | apply pA | apply pN | apply pD | refine pS ?_ GE225.out | refine pS ?_ GE254.out) | exact HB.out)))); have n2_ := Aside0.mk (blk_below (g := gb225) (o := .cells #[.int .u8 a0_0, .int .u8 a0_1, .slice A0_2 l0_2.length c0_2] 24 (0, 0)) (by (with_reducible repeat (first | refine qN ?_ _ | refine qD ?_ | refine qA ?_ _)); refine blk_far ?_ NB225_254.out _; (with_reducible repeat (first | refine qN ?_ _ | refine qD ?_ | refine qA ?_ _)); refine blk_far ?_ NB225_254.out _; (with_reducible repeat (first | refine qN ?_ _ | refine qD ?_ | refine qA ?_ _)); refine blk_far ?_ NB225_254.out _; (with_reducible repeat (first | refine qN ?_ _ | refine qD ?_ | refine qA ?_ _)); exact BK225.out) hb); have n3_ := Aside0.mk (blk_below (g := gb254) (o := .cells #[.int .u8 t248, .int .u8 t249, .slice Ao60 t250.length co60] 24 (0, 0)) (by (with_reducible repeat (first | refine qN ?_ _ | refine qD ?_ | refine qA ?_ _)); refine blk_put (cs := #[.int .u8 t248, .int .u8 t249, .slice none 0 0]) ?_ 2 _ rfl; (with_reducible repeat (first | refine qN ?_ _ | refine qD ?_ | refine qA ?_ _)); refine blk_put (cs := #[.int .u8 t248, .int .u8 0, .slice none 0 0]) ?_ 1 _ rfl; (with_reducible repeat (first | refine qN ?_ _ | refine qD ?_ | refine qA ?_ _)); refine blk_put (cs := #[.int .u8 0, .int .u8 0, .slice none 0 0]) ?_ 0 _ rfl; (with_reducible repeat (first | refine qN ?_ _ | refine qD ?_ | refine qA ?_ _)); exact BK254.out) hb); have n4_ := Aside0.mk (below_step (by repeat (first | (with_reducible first | exact HB.out | apply pA | apply pN | apply pD | refine pS ?_ GE225.out | refine pS ?_ GE254.out) | exact HB.out)) hb); clear HO252; clear BK225; clear BK254; clear HB; have HO252 := n0_; have HO258 := n1_; have BK225 := n2_; have BK254 := n3_; have HB := n4_; clear n0_ n1_ n2_ n3_ n4_; (try clear hb); (try clear hb2); (try clear hk); (try clear hi); (try clear ho0); obtain ⟨Ao62, co62, eo62⟩ := Kd.R_slice HO258.out; subst eo62; obtain ⟨i063, hi063, _, hsz63, _⟩ := info_parts info5; obtain ⟨hcut63, hA63, hC63⟩ := print_take_of (P := Try.prog) (Value.int .u8) 0 22 5 .i64 Try.underlying22 hi063 hsz63 A2 c2 l2 (t256.length : Int) (of_decide_eq_true (by first | (with_reducible assumption) | assumption)) (of_decide_eq_true (by first | (with_reducible assumption) | assumption)) HC2.out; have HR260 := Aside0.mk (Kd.C_of_reads (h1 := fun _ => rfl) (hA63 _ (Kd.reads_of_C HR2.out))); have HC260 := Aside0.mk hC63; clear hA63 hC63 hi063 hsz63) | (go_at_call 13; refine calls_of_args (args' := #[.slice Ao62 t256.length co62, .slice A2 (l2.take ((t256.length : Int) : Int).toNat).length c2]) (by first | (rw [show (l2.take ((t256.length : Int) : Int).toNat).length = (t256.length : Int).toNat from (by rw [List.length_take]; have h_ : ((t256.length : Int) : Int) ≤ (l2.length : Int) := of_decide_eq_true (by first | (with_reducible assumption) | assumption); omega)] <;> rfl) | rfl | rfl | (simp only [List.length_take, List.length_drop, Int.toNat_natCast] <;> fail) | rfl) ?_; (with_reducible refine (portreeveref01_Row.calls kj14 _ _ t256 _ _ (l2.take ((t256.length : Int) : Int).toNat) t261 _ ?side1 ?side2 ?side3 ?side4 A55.out).mono ?_); (case side1 => repeat (first | exact (Kd.R_reads' HO258.out).2.2 | (with_reducible refine Kd.C_alloc ?_ _) | (with_reducible refine Kd.C_drewN ?_ _) | (with_reducible refine Kd.C_drew ?_))); (case side2 => exact (Kd.R_reads' HO258.out).2.1); (case side3 => repeat (first | exact (Kd.C_below HR260.out HB.out) | (with_reducible refine Kd.C_alloc ?_ _) | (with_reducible refine Kd.C_drewN ?_ _) | (with_reducible refine Kd.C_drew ?_))); (case side4 => exact HC260.out); rintro e w' ⟨rfl, ⟨nd, rfl⟩⟩))
                      go_ret
                      exact ⟨by first | rfl | (simp [errW_none, errW_some] <;> rfl) | (simp [*, errW_none, errW_some] <;> rfl), by repeat (first | (with_reducible first | exact HB.out | apply pA | apply pN | apply pD | refine pS ?_ GE225.out | refine pS ?_ GE254.out) | exact HB.out)⟩
                    · rw [if_neg c53] at H
                      exact absurd H (by simp)
                  · rw [if_neg c52] at H
                    have c52b0 : decide ((t256.length : Int) ≤ (l2.length : Int)) = false := decide_eq_false c52
                    have c52b1 : decide (t256.length ≤ l2.length) = false := decide_eq_false (fun h => c52 (Int.ofNat_le.mpr h))
                    clear c52
                    exact absurd ((Option.some.inj H).trans hlaw_.out) (by decide)
                · rw [if_neg c51] at H
                  have c51b0 : (t259 == 0) = false := beq_eq_false_iff_ne.mpr c51
                  have c51b1 : (t259 != 0) = true := bne_iff_ne.mpr c51
                  exact absurd ((Option.some.inj H).trans hlaw_.out) (by decide)
              · replace c50 := Bool.eq_false_iff.mpr c50
                subst c50
                have H1 : (some false) = some r := by rw [if_neg (show ¬ (false = true) by decide)] at H; exact H
                clear H
                have H := H1
                clear H1
                exact absurd ((Option.some.inj H).trans hlaw_.out) (by decide)
            · rw [if_neg c48] at H
              have c48b0 : (t253 == 0) = false := beq_eq_false_iff_ne.mpr c48
              have c48b1 : (t253 != 0) = true := bne_iff_ne.mpr c48
              by_cases c64 : t226 = true
              · subst c64
                have H1 : (if t253 = 2 then ((portreeveref09_Same.f kj14 t248 t249 t250 0 0 ([] : List Int)).bind fun t255 => (if t255 = true then (some ((t230 == 0) == (decide ((l0_2.length : Int) ≤ 1496)))) else (some false))) else (some false)) = some r := by rw [if_pos rfl] at H; exact H
                clear H
                have H := H1
                clear H1
                by_cases c65 : t253 = 2
                · rw [if_pos c65] at H
                  have c65b0 : (t253 == 2) = true := beq_iff_eq.mpr c65
                  have c65b1 : (t253 != 2) = false := bne_eq_false_iff_eq.mpr c65
                  clear c65
                  replace H := Option.bind_eq_some_iff.mp H
                  obtain ⟨t255, A660, H⟩ := H
                  replace H : (if t255 = true then (some ((t230 == 0) == (decide ((l0_2.length : Int) ≤ 1496)))) else (some false)) = some r := H
                  have A66 := Aside0.mk A660
                  clear A660
                  by_cases c67 : t255 = true
                  · subst c67
                    have H1 : (some ((t230 == 0) == (decide ((l0_2.length : Int) ≤ 1496)))) = some r := by rw [if_pos rfl] at H; exact H
                    clear H
                    have H := H1
                    clear H1
                    clear hlaw_
                    obtain rfl := Option.some.inj H
                    go_wp2_with (first | ((with_reducible refine gate_callee (f := 11) rfl ?_); refine goesL_ (some 67) rfl rfl Try.func11 (by kernel_rfl) rfl #[.slice A2 l2.length c2] rfl (by (try simp only [List.map_toArray, List.map_cons, List.map_nil]); first | done | rfl | (simp only [List.length_drop, List.length_take]; rfl)) ?_; (with_reducible refine (pack_Read.calls kj14 (fun k_ => k_ < w.heap.size) _ _ l2 t248 t249 t250 t253 _ ?side1 A47.out).mono ?_); (case side1 => exact Kd.V_mk HC2.out (Kd.F_below (Kd.C_F (Kd.heap_int .u8) HR2.out) (by repeat (first | (with_reducible first | exact HB.out | apply pA | apply pN | apply pD | refine pS ?_ GE225.out) | exact HB.out)))); rintro e w68 ⟨v251, rfl, ho0, hb⟩; refine ⟨_, rfl, ?_⟩; have n0_ := Aside0.mk (Kd.V_lower (Kd.V_mono (ok' := fun k_ => k_ ≠ gb225) ho0 (fun k_ hk_ => Or.elim hk_ (fun hs_ => fun e_ => Nat.not_le.2 hs_ (by rw [e_]; exact GW225.out)) (fun hn_ => (Kd.freshB (g := gb225) (o := .cells #[.int .u8 a0_0, .int .u8 a0_1, .slice A0_2 l0_2.length c0_2] 24 (0, 0)) (by (with_reducible repeat (first | refine qN ?_ _ | refine qD ?_ | refine qA ?_ _)); exact BK225.out) k_ hn_)))) (below_size (by repeat (first | (with_reducible first | exact HB.out | apply pA | apply pN | apply pD | refine pS ?_ GE225.out) | exact HB.out)))); have n1_ := Aside0.mk (blk_below (g := gb225) (o := .cells #[.int .u8 a0_0, .int .u8 a0_1, .slice A0_2 l0_2.length c0_2] 24 (0, 0)) (by (with_reducible repeat (first | refine qN ?_ _ | refine qD ?_ | refine qA ?_ _)); exact BK225.out) hb); have n2_ := Aside0.mk (below_step (by repeat (first | (with_reducible first | exact HB.out | apply pA | apply pN | apply pD | refine pS ?_ GE225.out) | exact HB.out)) hb); clear BK225; clear HB; have HO252 := n0_; have BK225 := n1_; have HB := n2_; clear n0_ n1_ n2_; (try clear hb); (try clear hb2); (try clear hk); (try clear hi); (try clear ho0)) | ((with_reducible refine gate_dst (N := 12) rfl ?_); (try (refine gate_guard (by rfl) ?_; dsimp only)); refine box_event ?hg (N := 12) ?hd (cs := #[.int .u8 0, .int .u8 0, .slice none 0 0]) (t := 24) ?hr ?_; (case hd => rfl); (case hg => rfl); (case hr => first | (go_simp; done) | (go_simp; rfl)); intro gb254 hg w69 hbox hb; have n0_ := Aside0.mk (Kd.V_below (Kd.V_elderB (by (with_reducible repeat (first | apply Kd.V_alloc | apply Kd.V_drewN | apply Kd.V_drew)); exact HO252.out) gb254 (Nat.le_of_eq hg.symm)) hb); have n1_ := Aside0.mk (blk_below (g := gb225) (o := .cells #[.int .u8 a0_0, .int .u8 a0_1, .slice A0_2 l0_2.length c0_2] 24 (0, 0)) (by (with_reducible repeat (first | refine qN ?_ _ | refine qD ?_ | refine qA ?_ _)); exact BK225.out) hb); have n2_ := Aside0.mk (below_step (by repeat (first | (with_reducible first | exact HB.out | apply pA | apply pN | apply pD | refine pS ?_ GE225.out) | exact HB.out)) hb); have n3_ := Aside0.mk (hbox); have n4_ := Aside0.mk ((by rw [hg]; exact (below_size (by repeat (first | (with_reducible first | exact HB.out | apply pA | apply pN | apply pD | refine pS ?_ GE225.out) | exact HB.out))) : w.heap.size ≤ gb254)); have n5_ := Aside0.mk ((by rw [hg]; exact (below_size (by repeat (first | (with_reducible first | exact HB.out | apply pA | apply pN | apply pD | refine pS ?_ GE225.out) | exact HB.out))) : w.heap.size ≤ gb254)); have n6_ := Aside0.mk ((by rw [hg]; exact Nat.ne_of_lt (blk_lt (g := gb225) (o := .cells #[.int .u8 a0_0, .int .u8 a0_1, .slice A0_2 l0_2.length c0_2] 24 (0, 0)) (by (with_reducible repeat (first | refine qN ?_ _ | refine qD ?_ | refine qA ?_ _)); exact BK225.out)) : gb225 ≠ gb254)); have n7_ := Aside0.mk ((by rw [hg]; exact Nat.ne_of_gt (blk_lt (g := gb225) (o := .cells #[.int .u8 a0_0, .int .u8 a0_1, .slice A0_2 l0_2.length c0_2] 24 (0, 0)) (by (with_reducible repeat (first | refine qN ?_ _ | refine qD ?_ | refine qA ?_ _)); exact BK225.out)) : gb254 ≠ gb225)); clear HO252; clear BK225; clear HB; have HO252 := n0_; have BK225 := n1_; have HB := n2_; have BK254 := n3_; have GW254 := n4_; have GE254 := n5_; have NB225_254 := n6_; have NB254_225 := n7_; clear n0_ n1_ n2_ n3_ n4_ n5_ n6_ n7_; clear hb hbox hg; have hnb70 := NB254_225.out; have hnc70 := NB225_254.out; have hcz71_0 : w69.cell? ⟨gb254, 0, none⟩ = some (.int .u8 0) := (blk_cell BK254.out 0).trans rfl; have hcz71_1 : w69.cell? ⟨gb254, 1, none⟩ = some (.int .u8 0) := (blk_cell BK254.out 1).trans rfl; have hcz71_2 : w69.cell? ⟨gb254, 2, none⟩ = some (.slice none 0 0) := (blk_cell BK254.out 2).trans rfl; have hfz71_0 := blk_frozen BK254.out 0; have hfz71_1 := blk_frozen BK254.out 1; have hfz71_2 := blk_frozen BK254.out 2; obtain ⟨Ao72, co72, eo72⟩ := Kd.V_slice HO252.out; subst eo72) | (go_at_call 14; (refine (portreeveref09_Same.calls kj14 t248 t249 _ _ t250 0 0 _ _ ([] : List Int) true _ ?side1 ?side2 ?side3 ?side4 A66.out).mono ?_); (case side1 => refine (Kd.V_reads' (e := 5) (base := w.heap.size) (ok := fun k_ => (k_ ≠ gb225 ∧ k_ ≠ gb254)) (n := t250.length) (c := co72) ?_).2.2; exact (by (with_reducible repeat (first | apply Kd.V_alloc | apply Kd.V_drewN | apply Kd.V_drew)); exact (Kd.V_mono (Kd.V_far (p := ⟨gb254, 2, none⟩) (Kd.V_far (p := ⟨gb254, 1, none⟩) (Kd.V_far (p := ⟨gb254, 0, none⟩) (Kd.V_mono HO252.out (fun k_ hk => (⟨hk, hk.2⟩ : _ ∧ k_ ≠ gb254))) (fun _ hk => hk.2) (.int .u8 t248)) (fun _ hk => hk.2) (.int .u8 t249)) (fun _ hk => hk.2) (.slice Ao72 t250.length co72)) (fun _ h_ => h_.1)))); (case side2 => exact (Kd.V_reads' HO252.out).2.1); (case side3 => exact Kd.C_nil _ _); (case side4 => exact Nat.le_refl _); rintro e w73 ⟨rfl, hb⟩; have n0_ := Aside0.mk (Kd.V_below (by (with_reducible repeat (first | apply Kd.V_alloc | apply Kd.V_drewN | apply Kd.V_drew)); exact (Kd.V_mono (Kd.V_far (p := ⟨gb254, 2, none⟩) (Kd.V_far (p := ⟨gb254, 1, none⟩) (Kd.V_far (p := ⟨gb254, 0, none⟩) (Kd.V_mono HO252.out (fun k_ hk => (⟨hk, hk.2⟩ : _ ∧ k_ ≠ gb254))) (fun _ hk => hk.2) (.int .u8 t248)) (fun _ hk => hk.2) (.int .u8 t249)) (fun _ hk => hk.2) (.slice Ao72 t250.length co72)) (fun _ h_ => h_.1))) hb); have n1_ := Aside0.mk (blk_below (g := gb225) (o := .cells #[.int .u8 a0_0, .int .u8 a0_1, .slice A0_2 l0_2.length c0_2] 24 (0, 0)) (by (with_reducible repeat (first | refine qN ?_ _ | refine qD ?_ | refine qA ?_ _)); refine blk_far ?_ NB225_254.out _; (with_reducible repeat (first | refine qN ?_ _ | refine qD ?_ | refine qA ?_ _)); refine blk_far ?_ NB225_254.out _; (with_reducible repeat (first | refine qN ?_ _ | refine qD ?_ | refine qA ?_ _)); refine blk_far ?_ NB225_254.out _; (with_reducible repeat (first | refine qN ?_ _ | refine qD ?_ | refine qA ?_ _)); exact BK225.out) hb); have n2_ := Aside0.mk (blk_below (g := gb254) (o := .cells #[.int .u8 t248, .int .u8 t249, .slice Ao72 t250.length co72] 24 (0, 0)) (by (with_reducible repeat (first | refine qN ?_ _ | refine qD ?_ | refine qA ?_ _)); refine blk_put (cs := #[.int .u8 t248, .int .u8 t249, .slice none 0 0]) ?_ 2 _ rfl; (with_reducible repeat (first | refine qN ?_ _ | refine qD ?_ | refine qA ?_ _)); refine blk_put (cs := #[.int .u8 t248, .int .u8 0, .slice none 0 0]) ?_ 1 _ rfl; (with_reducible repeat (first | refine qN ?_ _ | refine qD ?_ | refine qA ?_ _)); refine blk_put (cs := #[.int .u8 0, .int .u8 0, .slice none 0 0]) ?_ 0 _ rfl; (with_reducible repeat (first | refine qN ?_ _ | refine qD ?_ | refine qA ?_ _)); exact BK254.out) hb); have n3_ := Aside0.mk (below_step (by repeat (first | (with_reducible first | exact HB.out | apply pA | apply pN | apply pD | refine pS ?_ GE225.out | refine pS ?_ GE254.out) | exact HB.out)) hb); clear HO252; clear BK225; clear BK254; clear HB; have HO252 := n0_; have BK225 := n1_; have BK254 := n2_; have HB := n3_; clear n0_ n1_ n2_ n3_; (try clear hb); (try clear hb2); (try clear hk); (try clear hi); have hcz74_0 : w73.cell? ⟨gb225, 0, none⟩ = some (.int .u8 a0_0) := (blk_cell BK225.out 0).trans rfl; have hcz74_1 : w73.cell? ⟨gb225, 1, none⟩ = some (.int .u8 a0_1) := (blk_cell BK225.out 1).trans rfl; have hcz74_2 : w73.cell? ⟨gb225, 2, none⟩ = some (.slice A0_2 l0_2.length c0_2) := (blk_cell BK225.out 2).trans rfl; have hfz74_0 := blk_frozen BK225.out 0; have hfz74_1 := blk_frozen BK225.out 1; have hfz74_2 := blk_frozen BK225.out 2))
                    go_ret
                    exact ⟨by first | rfl | (simp [errW_none, errW_some] <;> rfl) | (simp [*, errW_none, errW_some] <;> rfl), by repeat (first | (with_reducible first | exact HB.out | apply pA | apply pN | apply pD | refine pS ?_ GE225.out | refine pS ?_ GE254.out) | exact HB.out)⟩
                  · replace c67 := Bool.eq_false_iff.mpr c67
                    subst c67
                    have H1 : (some false) = some r := by rw [if_neg (show ¬ (false = true) by decide)] at H; exact H
                    clear H
                    have H := H1
                    clear H1
                    exact absurd ((Option.some.inj H).trans hlaw_.out) (by decide)
                · rw [if_neg c65] at H
                  have c65b0 : (t253 == 2) = false := beq_eq_false_iff_ne.mpr c65
                  have c65b1 : (t253 != 2) = true := bne_iff_ne.mpr c65
                  exact absurd ((Option.some.inj H).trans hlaw_.out) (by decide)
              · replace c64 := Bool.eq_false_iff.mpr c64
                subst c64
                have H1 : (some false) = some r := by rw [if_neg (show ¬ (false = true) by decide)] at H; exact H
                clear H
                have H := H1
                clear H1
                exact absurd ((Option.some.inj H).trans hlaw_.out) (by decide)

end Go.Proofs.Ytgijfaecplodfaa.Q

-- written by this session's own program (wip/tools/myprint.py), over the kit's print
import Derived.Test.YtgijfaecplodfaaQx0
import Derived.Test.YtgijfaecplodfaaQx1
import Derived.Test.YtgijfaecplodfaaQx3
import Derived.Test.YtgijfaecplodfaaQx4
import Derived.Test.YtgijfaecplodfaaQx5
namespace Go.Proofs.Ytgijfaecplodfaa.Q
open Go.RowKit Go.Proofs.YtgijfaecplodfaaW.PrintWords Go.Proofs.YtgijfaecplodfaaW.PrintLast Go.Proofs.YtgijfaecplodfaaW.PrintMore
open Go.Proofs.YtgijfaecplodfaaV
attribute [local go_sem] max2_int min2_int max_two min_two max_three min_three max_four min_four   -- for this text's walks alone
set_option linter.unusedVariables false
set_option linter.unusedSimpArgs false

/-! ### portreevelaw09_PackApart: function 7 -/
def portreevelaw09_PackApart.j0 : Nat → Int → Bool → Bool → Int → Int → List Int → Int → Int → List Int → Option (Bool)
  | 0, _, _, _, _, _, _, _, _, _ => none
  | k + 1, x2, x7, x25, x314000, x314001, x314002, x315000, x315001, x315002 => if x25 = true then (some x7) else ((pack_Bytes.f x314000 x314001 x314002).bind fun bt316 => ((pack_Bytes.f x315000 x315001 x315002).bind fun bt320 => ((pack_Reject.f x314000 x314001 x314002 x2).bind fun bt324 => ((pack_Read.f k bt324.2.2).bind fun bt330 => (if x7 = true then (if bt316.2 = 0 then (if bt320.2 = 0 then ((portreeveref01_Row.f k bt316.1 bt320.1).bind fun t337 => ((portreeveref09_Same.f k x314000 x314001 x314002 x315000 x315001 x315002).bind fun t338 => (if (t337 == t338) = true then (if bt330.2.2.2 = 0 then ((portreeveref09_Same.f k bt330.1 bt330.2.1 bt330.2.2.1 x314000 x314001 x314002).bind fun t339 => (some t339)) else (some false)) else (some false)))) else (some false)) else (some false)) else (some false))))))
def portreevelaw09_PackApart.f (k : Nat) (a0_0 : Int) (a0_1 : Int) (l0_2 : List Int) (a1_0 : Int) (a1_1 : Int) (l1_2 : List Int) (a2 : Int) : Option (Bool) := (portreevelaw09_shown.f k).bind fun t315 => (if (l0_2.length : Int) > 1492 then (portreevelaw09_PackApart.j0 k a2 t315 true a0_0 a0_1 l0_2 a1_0 a1_1 l1_2) else (portreevelaw09_PackApart.j0 k a2 t315 (decide ((l1_2.length : Int) > 1492)) a0_0 a0_1 l0_2 a1_0 a1_1 l1_2))
theorem portreevelaw09_PackApart.mono_l : ∀ k, (∀ y0 y1 y2 y3 y4 y5 y6 y7 y8, LeO (portreevelaw09_PackApart.j0 k y0 y1 y2 y3 y4 y5 y6 y7 y8) (portreevelaw09_PackApart.j0 (k + 1) y0 y1 y2 y3 y4 y5 y6 y7 y8))
  | 0 => fun _ _ _ _ _ _ _ _ _ r h => by simp [portreevelaw09_PackApart.j0] at h
  | k + 1 => by
    have ih0 := portreevelaw09_PackApart.mono_l k
    · intro y0 y1 y2 y3 y4 y5 y6 y7 y8
      unfold portreevelaw09_PackApart.j0
      repeat' first
      | (with_reducible exact ih0 _ _ _ _ _ _ _ _ _)
      | (with_reducible exact pack_Read.mono _ _)
      | (with_reducible exact portreevelaw09_shown.mono _)
      | (with_reducible exact portreeveref01_Row.mono _ _ _)
      | (with_reducible exact portreeveref09_Same.mono _ _ _ _ _ _ _)
      | (with_reducible exact LeO.refl _)
      | (with_reducible exact LeO.none _)
      | (with_reducible refine LeO.ite ?_ ?_)
      | (with_reducible refine LeO.bind ?_ (fun _ => ?_))
      | exact ih0 _ _ _ _ _ _ _ _ _
      | exact pack_Read.mono _ _
      | exact portreevelaw09_shown.mono _
      | exact portreeveref01_Row.mono _ _ _
      | exact portreeveref09_Same.mono _ _ _ _ _ _ _
      | exact LeO.none _
      | refine LeO.ite ?_ ?_
      | refine LeO.bind ?_ (fun _ => ?_)
theorem portreevelaw09_PackApart.mono : ∀ a0 a1 a2 a3 a4 a5 a6 k, LeO (portreevelaw09_PackApart.f k a0 a1 a2 a3 a4 a5 a6) (portreevelaw09_PackApart.f (k + 1) a0 a1 a2 a3 a4 a5 a6) := by
  intro a0 a1 a2 a3 a4 a5 a6 k
  have ih0 := portreevelaw09_PackApart.mono_l k
  unfold portreevelaw09_PackApart.f
  repeat' first
      | (with_reducible exact ih0 _ _ _ _ _ _ _ _ _)
      | (with_reducible exact pack_Read.mono _ _)
      | (with_reducible exact portreevelaw09_shown.mono _)
      | (with_reducible exact portreeveref01_Row.mono _ _ _)
      | (with_reducible exact portreeveref09_Same.mono _ _ _ _ _ _ _)
      | (with_reducible exact LeO.refl _)
      | (with_reducible exact LeO.none _)
      | (with_reducible refine LeO.ite ?_ ?_)
      | (with_reducible refine LeO.bind ?_ (fun _ => ?_))
      | exact ih0 _ _ _ _ _ _ _ _ _
      | exact pack_Read.mono _ _
      | exact portreevelaw09_shown.mono _
      | exact portreeveref01_Row.mono _ _ _
      | exact portreeveref09_Same.mono _ _ _ _ _ _ _
      | exact LeO.none _
      | refine LeO.ite ?_ ?_
      | refine LeO.bind ?_ (fun _ => ?_)
def portreevelaw09_PackApart.T8 : Bool × List (List Nat × List Nat) := (true, [([], []), ([0], [0]), ([1], [1]), ([2, 1], [1, 2]), ([1, 3], [1, 3]), ([4, 1], [4]), ([5], [5]), ([6, 5], [5, 6]), ([5, 7], [5, 7]), ([8, 5], [8]), ([9], [9]), ([9], [9]), ([10, 11, 9, 9], [9, 10, 11]), ([9], [9]), ([9], [9]), ([13, 14, 12, 9], [9, 13, 14]), ([12, 15, 9], [9, 12, 15]), ([9, 16], [9, 16]), ([17, 15], [17]), ([18], [18]), ([19, 18], [18, 19]), ([18, 20], [18, 20]), ([21, 18], [21]), ([22], [22]), ([22], [22]), ([23, 24, 22, 22], [22, 23, 24]), ([22, 25], [22, 25]), ([26, 25, 0, 1, 2, 3, 4, 5, 6, 7, 8, 9, 10, 11, 12, 13, 14, 15, 16, 17, 18, 19, 20, 21, 22, 23, 24, 25, 26], [26])])
def portreevelaw09_PackApart.B8 : List Nat := [0, 1, 3, 7, 15, 31, 63, 127, 255, 511, 1023, 1023, 4095, 1023, 1023, 32767, 65535, 131071, 262143, 524287, 1048575, 2097151, 4194303, 8388607, 8388607, 33554431, 67108863, 134217727]
theorem portreevelaw09_PackApart.tab8 : rtab .any (opsOf Try.f7 8) = portreevelaw09_PackApart.T8 := by kernel_rfl
theorem portreevelaw09_PackApart.bits8 : waitsOk portreevelaw09_PackApart.T8.2 portreevelaw09_PackApart.B8 = true := by kernel_rfl
set_option maxHeartbeats 8000000 in
set_option maxRecDepth 100000 in
theorem portreevelaw09_PackApart.calls (k : Nat) (a0_0 : Int) (a0_1 : Int) (A0_2 : Option Addr) (c0_2 : Nat) (l0_2 : List Int) (a1_0 : Int) (a1_1 : Int) (A1_2 : Option Addr) (c1_2 : Nat) (l1_2 : List Int) (a2 : Int) (r : Bool) (w : World) (hlaw_ : Aside0 (r = true)) (hr0_2 : Kd.C (Kd.int .u8) w A0_2 l0_2.length l0_2) (hc0_2 : l0_2.length ≤ c0_2) (hr1_2 : Kd.C (Kd.int .u8) w A1_2 l1_2.length l1_2) (hc1_2 : l1_2.length ≤ c1_2) (h : portreevelaw09_PackApart.f k a0_0 a0_1 l0_2 a1_0 a1_1 l1_2 a2 = some r) :
    Calls Try.prog 7 #[.agg #[.int .u8 a0_0, .int .u8 a0_1, .slice A0_2 l0_2.length c0_2], .agg #[.int .u8 a1_0, .int .u8 a1_1, .slice A1_2 l1_2.length c1_2], .int .u8 a2] w fun e w' => e = .returned (.bool r) ∧ Below w.heap.size w w' := by
  have hu24 := Try.underlying24
  have HR0_2 := Aside0.mk hr0_2
  have HC0_2 := Aside0.mk hc0_2
  clear hr0_2 hc0_2
  have HR1_2 := Aside0.mk hr1_2
  have HC1_2 := Aside0.mk hc1_2
  clear hr1_2 hc1_2
  have HB := Aside0.mk (Below.refl w.heap.size w)
  have H : ((portreevelaw09_shown.f k).bind fun t315 => (if (l0_2.length : Int) > 1492 then (portreevelaw09_PackApart.j0 k a2 t315 true a0_0 a0_1 l0_2 a1_0 a1_1 l1_2) else (portreevelaw09_PackApart.j0 k a2 t315 (decide ((l1_2.length : Int) > 1492)) a0_0 a0_1 l0_2 a1_0 a1_1 l1_2))) = some r := h
  clear h
  replace H := Option.bind_eq_some_iff.mp H
  obtain ⟨t315, A40, H⟩ := H
  replace H : (if (l0_2.length : Int) > 1492 then (portreevelaw09_PackApart.j0 k a2 t315 true a0_0 a0_1 l0_2 a1_0 a1_1 l1_2) else (portreevelaw09_PackApart.j0 k a2 t315 (decide ((l1_2.length : Int) > 1492)) a0_0 a0_1 l0_2 a1_0 a1_1 l1_2)) = some r := H
  have A4 := Aside0.mk A40
  clear A40
  have HC5 := Aside0.mk H
  clear H
  go_enter Try.func7, Try.ntmps7
  go_upto_region 2 with (first | ((with_reducible refine gate_dst (N := 3) rfl ?_); (try (refine gate_guard (by rfl) ?_; dsimp only)); refine box_event ?hg (N := 3) ?hd (cs := #[.int .u8 a0_0, .int .u8 a0_1, .slice A0_2 l0_2.length c0_2]) (t := 24) ?hr ?_; (case hd => rfl); (case hg => rfl); (case hr => first | (go_simp; done) | (go_simp; rfl)); intro gb313 hg w6 hbox hb; have n0_ := Aside0.mk (below_step (by repeat (first | (with_reducible first | exact HB.out | apply pA | apply pN | apply pD) | exact HB.out)) hb); have n1_ := Aside0.mk (hbox); have n2_ := Aside0.mk ((by rw [hg]; exact (below_size (by repeat (first | (with_reducible first | exact HB.out | apply pA | apply pN | apply pD) | exact HB.out))) : w.heap.size ≤ gb313)); have n3_ := Aside0.mk ((by rw [hg]; exact (below_size (by repeat (first | (with_reducible first | exact HB.out | apply pA | apply pN | apply pD) | exact HB.out))) : w.heap.size ≤ gb313)); clear HB; have HB := n0_; have BK313 := n1_; have GW313 := n2_; have GE313 := n3_; clear n0_ n1_ n2_ n3_; clear hb hbox hg) | ((with_reducible refine gate_dst (N := 4) rfl ?_); (try (refine gate_guard (by rfl) ?_; dsimp only)); refine box_event ?hg (N := 4) ?hd (cs := #[.int .u8 a1_0, .int .u8 a1_1, .slice A1_2 l1_2.length c1_2]) (t := 24) ?hr ?_; (case hd => rfl); (case hg => rfl); (case hr => first | (go_simp; done) | (go_simp; rfl)); intro gb314 hg w7 hbox hb; have n0_ := Aside0.mk (blk_below (g := gb313) (o := .cells #[.int .u8 a0_0, .int .u8 a0_1, .slice A0_2 l0_2.length c0_2] 24 (0, 0)) (by (with_reducible repeat (first | refine qN ?_ _ | refine qD ?_ | refine qA ?_ _)); exact BK313.out) hb); have n1_ := Aside0.mk (below_step (by repeat (first | (with_reducible first | exact HB.out | apply pA | apply pN | apply pD | refine pS ?_ GE313.out) | exact HB.out)) hb); have n2_ := Aside0.mk (hbox); have n3_ := Aside0.mk ((by rw [hg]; exact (below_size (by repeat (first | (with_reducible first | exact HB.out | apply pA | apply pN | apply pD | refine pS ?_ GE313.out) | exact HB.out))) : w.heap.size ≤ gb314)); have n4_ := Aside0.mk ((by rw [hg]; exact (below_size (by repeat (first | (with_reducible first | exact HB.out | apply pA | apply pN | apply pD | refine pS ?_ GE313.out) | exact HB.out))) : w.heap.size ≤ gb314)); have n5_ := Aside0.mk ((by rw [hg]; exact Nat.ne_of_lt (blk_lt (g := gb313) (o := .cells #[.int .u8 a0_0, .int .u8 a0_1, .slice A0_2 l0_2.length c0_2] 24 (0, 0)) (by (with_reducible repeat (first | refine qN ?_ _ | refine qD ?_ | refine qA ?_ _)); exact BK313.out)) : gb313 ≠ gb314)); have n6_ := Aside0.mk ((by rw [hg]; exact Nat.ne_of_gt (blk_lt (g := gb313) (o := .cells #[.int .u8 a0_0, .int .u8 a0_1, .slice A0_2 l0_2.length c0_2] 24 (0, 0)) (by (with_reducible repeat (first | refine qN ?_ _ | refine qD ?_ | refine qA ?_ _)); exact BK313.out)) : gb314 ≠ gb313)); clear BK313; clear HB; have BK313 := n0_; have HB := n1_; have BK314 := n2_; have GW314 := n3_; have GE314 := n4_; have NB313_314 := n5_; have NB314_313 := n6_; clear n0_ n1_ n2_ n3_ n4_ n5_ n6_; clear hb hbox hg) | ((with_reducible refine gate_callee (f := 8) rfl ?_); refine goesL_ (some 15) rfl rfl Try.func8 (by kernel_rfl) rfl #[] rfl (by (try simp only [List.map_toArray, List.map_cons, List.map_nil]); first | done | rfl | (simp only [List.length_drop, List.length_take]; rfl)) ?_; (with_reducible refine (portreevelaw09_shown.calls k  t315 _ A4.out).mono ?_); rintro e w8 ⟨rfl, hb⟩; refine ⟨_, rfl, ?_⟩; have n0_ := Aside0.mk (blk_below (g := gb313) (o := .cells #[.int .u8 a0_0, .int .u8 a0_1, .slice A0_2 l0_2.length c0_2] 24 (0, 0)) (by (with_reducible repeat (first | refine qN ?_ _ | refine qD ?_ | refine qA ?_ _)); exact BK313.out) hb); have n1_ := Aside0.mk (blk_below (g := gb314) (o := .cells #[.int .u8 a1_0, .int .u8 a1_1, .slice A1_2 l1_2.length c1_2] 24 (0, 0)) (by (with_reducible repeat (first | refine qN ?_ _ | refine qD ?_ | refine qA ?_ _)); exact BK314.out) hb); have n2_ := Aside0.mk (below_step (by repeat (first | (with_reducible first | exact HB.out | apply pA | apply pN | apply pD | refine pS ?_ GE313.out | refine pS ?_ GE314.out) | exact HB.out)) hb); clear BK313; clear BK314; clear HB; have BK313 := n0_; have BK314 := n1_; have HB := n2_; clear n0_ n1_ n2_; (try clear hb); (try clear hb2); (try clear hk); (try clear hi)))
  (try simp only [Act.put, List.setIfInBounds_toArray, List.set_cons_zero, List.set_cons_succ])
  go_cut [25] (fun v25 wc => ∃ (kq : Nat) (x25_4 : Bool), v25 = .bool x25_4 ∧ Aside0 (portreevelaw09_PackApart.j0 kq a2 t315 x25_4 a0_0 a0_1 l0_2 a1_0 a1_1 l1_2 = some r) ∧ Aside0 (kq ≤ k) ∧ Aside0 (wc.heap[gb313]? = some (.cells #[.int .u8 a0_0, .int .u8 a0_1, (.slice A0_2 l0_2.length c0_2)] 24 (0, 0))) ∧ Aside0 (wc.heap[gb314]? = some (.cells #[.int .u8 a1_0, .int .u8 a1_1, (.slice A1_2 l1_2.length c1_2)] 24 (0, 0))) ∧ Aside0 (Below w.heap.size w wc))
  case first =>
    have H := HC5.out
    clear HC5
    by_cases c9 : (l0_2.length : Int) > 1492
    · rw [if_pos c9] at H
      have c9b0 : decide (1492 < (l0_2.length : Int)) = true := decide_eq_true c9
      have c9b1 : decide (1492 < l0_2.length) = true := decide_eq_true (by omega)
      clear c9
      (first | rw [c9b0] | (simp only [i64_w, i32_w]; rw [c9b0]) | skip)
      have H' := Aside0.mk H
      clear H
      have hnb10 := NB313_314.out
      have hnc10 := NB314_313.out
      have hcz11_0 : w8.cell? ⟨gb313, 0, none⟩ = some (.int .u8 a0_0) := (blk_cell BK313.out 0).trans rfl
      have hcz11_1 : w8.cell? ⟨gb313, 1, none⟩ = some (.int .u8 a0_1) := (blk_cell BK313.out 1).trans rfl
      have hcz11_2 : w8.cell? ⟨gb313, 2, none⟩ = some (.slice A0_2 l0_2.length c0_2) := (blk_cell BK313.out 2).trans rfl
      have hfz11_0 := blk_frozen BK313.out 0
      have hfz11_1 := blk_frozen BK313.out 1
      have hfz11_2 := blk_frozen BK313.out 2
      go_wp2
      go_meet
      case rel => exact ⟨_, (true), (by first | rfl | (simp; done) | (simp [*]; done)), H', ⟨by first | omega | exact Nat.le_refl _⟩, ⟨by (with_reducible repeat (first | refine qN ?_ _ | refine qD ?_ | refine qA ?_ _)); exact BK313.out⟩, ⟨by (with_reducible repeat (first | refine qN ?_ _ | refine qD ?_ | refine qA ?_ _)); exact BK314.out⟩, ⟨by repeat (first | (with_reducible first | exact HB.out | apply pA | apply pN | apply pD | refine pS ?_ GE313.out | refine pS ?_ GE314.out) | exact HB.out)⟩⟩
    · rw [if_neg c9] at H
      have c9b0 : decide (1492 < (l0_2.length : Int)) = false := decide_eq_false c9
      have c9b1 : decide (1492 < l0_2.length) = false := decide_eq_false (by omega)
      clear c9
      (first | rw [c9b0] | (simp only [i64_w, i32_w]; rw [c9b0]) | skip)
      have H' := Aside0.mk H
      clear H
      have hnb12 := NB313_314.out
      have hnc12 := NB314_313.out
      have hcz13_0 : w8.cell? ⟨gb313, 0, none⟩ = some (.int .u8 a0_0) := (blk_cell BK313.out 0).trans rfl
      have hcz13_1 : w8.cell? ⟨gb313, 1, none⟩ = some (.int .u8 a0_1) := (blk_cell BK313.out 1).trans rfl
      have hcz13_2 : w8.cell? ⟨gb313, 2, none⟩ = some (.slice A0_2 l0_2.length c0_2) := (blk_cell BK313.out 2).trans rfl
      have hfz13_0 := blk_frozen BK313.out 0
      have hfz13_1 := blk_frozen BK313.out 1
      have hfz13_2 := blk_frozen BK313.out 2
      have hcz14_0 : w8.cell? ⟨gb314, 0, none⟩ = some (.int .u8 a1_0) := (blk_cell BK314.out 0).trans rfl
      have hcz14_1 : w8.cell? ⟨gb314, 1, none⟩ = some (.int .u8 a1_1) := (blk_cell BK314.out 1).trans rfl
      have hcz14_2 : w8.cell? ⟨gb314, 2, none⟩ = some (.slice A1_2 l1_2.length c1_2) := (blk_cell BK314.out 2).trans rfl
      have hfz14_0 := blk_frozen BK314.out 0
      have hfz14_1 := blk_frozen BK314.out 1
      have hfz14_2 := blk_frozen BK314.out 2
      go_wp2
      go_meet
      case rel => exact ⟨_, (decide ((l1_2.length : Int) > 1492)), (by first | rfl | (simp; done) | (simp [*]; done)), H', ⟨by first | omega | exact Nat.le_refl _⟩, ⟨by (with_reducible repeat (first | refine qN ?_ _ | refine qD ?_ | refine qA ?_ _)); exact BK313.out⟩, ⟨by (with_reducible repeat (first | refine qN ?_ _ | refine qD ?_ | refine qA ?_ _)); exact BK314.out⟩, ⟨by repeat (first | (with_reducible first | exact HB.out | apply pA | apply pN | apply pD | refine pS ?_ GE313.out | refine pS ?_ GE314.out) | exact HB.out)⟩⟩
  case rest =>
    clear HC5
    try clear c1
    try clear p2
    try clear c7
    try clear c8
    try clear c9
    try clear c9b0
    try clear c9b1
    try clear c10
    try clear c12
    try clear hcz11_0
    try clear hcz11_1
    try clear hcz11_2
    try clear hcz13_0
    try clear hcz13_1
    try clear hcz13_2
    try clear hcz14_0
    try clear hcz14_1
    try clear hcz14_2
    try clear hfz11_0
    try clear hfz11_1
    try clear hfz11_2
    try clear hfz13_0
    try clear hfz13_1
    try clear hfz13_2
    try clear hfz14_0
    try clear hfz14_1
    try clear hfz14_2
    obtain ⟨kq, x25_4, rfl, HA, HJ4, BK313, BK314, HB⟩ := hcut
    cases kq with
    | zero => exact absurd HA.out (by simp [portreevelaw09_PackApart.j0])
    | succ kj4 =>
      have H := HA.out
      clear HA
      simp only [portreevelaw09_PackApart.j0] at H
      by_cases c15 : x25_4 = true
      · subst c15
        have H1 : (some t315) = some r := by rw [if_pos rfl] at H; exact H
        clear H
        have H := H1
        clear H1
        clear hlaw_
        obtain rfl := Option.some.inj H
        go_wp2
        go_ret
        exact ⟨by first | rfl | (simp [errW_none, errW_some] <;> rfl) | (simp [*, errW_none, errW_some] <;> rfl), by repeat (first | (with_reducible first | exact HB.out | apply pA | apply pN | apply pD | refine pS ?_ GE313.out | refine pS ?_ GE314.out) | exact HB.out)⟩
      · replace c15 := Bool.eq_false_iff.mpr c15
        subst c15
        have H1 : ((pack_Bytes.f a0_0 a0_1 l0_2).bind fun bt316 => ((pack_Bytes.f a1_0 a1_1 l1_2).bind fun bt320 => ((pack_Reject.f a0_0 a0_1 l0_2 a2).bind fun bt324 => ((pack_Read.f kj4 bt324.2.2).bind fun bt330 => (if t315 = true then (if bt316.2 = 0 then (if bt320.2 = 0 then ((portreeveref01_Row.f kj4 bt316.1 bt320.1).bind fun t337 => ((portreeveref09_Same.f kj4 a0_0 a0_1 l0_2 a1_0 a1_1 l1_2).bind fun t338 => (if (t337 == t338) = true then (if bt330.2.2.2 = 0 then ((portreeveref09_Same.f kj4 bt330.1 bt330.2.1 bt330.2.2.1 a0_0 a0_1 l0_2).bind fun t339 => (some t339)) else (some false)) else (some false)))) else (some false)) else (some false)) else (some false)))))) = some r := by rw [if_neg (show ¬ (false = true) by decide)] at H; exact H
        clear H
        have H := H1
        clear H1
        replace H := Option.bind_eq_some_iff.mp H
        obtain ⟨⟨t316, t319⟩, A160, H⟩ := H
        replace H : ((pack_Bytes.f a1_0 a1_1 l1_2).bind fun bt320 => ((pack_Reject.f a0_0 a0_1 l0_2 a2).bind fun bt324 => ((pack_Read.f kj4 bt324.2.2).bind fun bt330 => (if t315 = true then (if t319 = 0 then (if bt320.2 = 0 then ((portreeveref01_Row.f kj4 t316 bt320.1).bind fun t337 => ((portreeveref09_Same.f kj4 a0_0 a0_1 l0_2 a1_0 a1_1 l1_2).bind fun t338 => (if (t337 == t338) = true then (if bt330.2.2.2 = 0 then ((portreeveref09_Same.f kj4 bt330.1 bt330.2.1 bt330.2.2.1 a0_0 a0_1 l0_2).bind fun t339 => (some t339)) else (some false)) else (some false)))) else (some false)) else (some false)) else (some false))))) = some r := H
        have A16 := Aside0.mk A160
        clear A160
        replace H := Option.bind_eq_some_iff.mp H
        obtain ⟨⟨t320, t323⟩, A170, H⟩ := H
        replace H : ((pack_Reject.f a0_0 a0_1 l0_2 a2).bind fun bt324 => ((pack_Read.f kj4 bt324.2.2).bind fun bt330 => (if t315 = true then (if t319 = 0 then (if t323 = 0 then ((portreeveref01_Row.f kj4 t316 t320).bind fun t337 => ((portreeveref09_Same.f kj4 a0_0 a0_1 l0_2 a1_0 a1_1 l1_2).bind fun t338 => (if (t337 == t338) = true then (if bt330.2.2.2 = 0 then ((portreeveref09_Same.f kj4 bt330.1 bt330.2.1 bt330.2.2.1 a0_0 a0_1 l0_2).bind fun t339 => (some t339)) else (some false)) else (some false)))) else (some false)) else (some false)) else (some false)))) = some r := H
        have A17 := Aside0.mk A170
        clear A170
        replace H := Option.bind_eq_some_iff.mp H
        obtain ⟨⟨t324, t325, t326⟩, A180, H⟩ := H
        replace H : ((pack_Read.f kj4 t326).bind fun bt330 => (if t315 = true then (if t319 = 0 then (if t323 = 0 then ((portreeveref01_Row.f kj4 t316 t320).bind fun t337 => ((portreeveref09_Same.f kj4 a0_0 a0_1 l0_2 a1_0 a1_1 l1_2).bind fun t338 => (if (t337 == t338) = true then (if bt330.2.2.2 = 0 then ((portreeveref09_Same.f kj4 bt330.1 bt330.2.1 bt330.2.2.1 a0_0 a0_1 l0_2).bind fun t339 => (some t339)) else (some false)) else (some false)))) else (some false)) else (some false)) else (some false))) = some r := H
        have A18 := Aside0.mk A180
        clear A180
        replace H := Option.bind_eq_some_iff.mp H
        obtain ⟨⟨t330, t331, t332, t335⟩, A190, H⟩ := H
        replace H : (if t315 = true then (if t319 = 0 then (if t323 = 0 then ((portreeveref01_Row.f kj4 t316 t320).bind fun t337 => ((portreeveref09_Same.f kj4 a0_0 a0_1 l0_2 a1_0 a1_1 l1_2).bind fun t338 => (if (t337 == t338) = true then (if t335 = 0 then ((portreeveref09_Same.f kj4 t330 t331 t332 a0_0 a0_1 l0_2).bind fun t339 => (some t339)) else (some false)) else (some false)))) else (some false)) else (some false)) else (some false)) = some r := H
        have A19 := Aside0.mk A190
        clear A190
        by_cases c20 : t315 = true
        · subst c20
          have H1 : (if t319 = 0 then (if t323 = 0 then ((portreeveref01_Row.f kj4 t316 t320).bind fun t337 => ((portreeveref09_Same.f kj4 a0_0 a0_1 l0_2 a1_0 a1_1 l1_2).bind fun t338 => (if (t337 == t338) = true then (if t335 = 0 then ((portreeveref09_Same.f kj4 t330 t331 t332 a0_0 a0_1 l0_2).bind fun t339 => (some t339)) else (some false)) else (some false)))) else (some false)) else (some false)) = some r := by rw [if_pos rfl] at H; exact H
          clear H
          have H := H1
          clear H1
          by_cases c21 : t319 = 0
          · rw [if_pos c21] at H
            have c21b0 : (t319 == 0) = true := beq_iff_eq.mpr c21
            have c21b1 : (t319 != 0) = false := bne_eq_false_iff_eq.mpr c21
            clear c21
            by_cases c22 : t323 = 0
            · rw [if_pos c22] at H
              have c22b0 : (t323 == 0) = true := beq_iff_eq.mpr c22
              have c22b1 : (t323 != 0) = false := bne_eq_false_iff_eq.mpr c22
              clear c22
              replace H := Option.bind_eq_some_iff.mp H
              obtain ⟨t337, A230, H⟩ := H
              replace H : ((portreeveref09_Same.f kj4 a0_0 a0_1 l0_2 a1_0 a1_1 l1_2).bind fun t338 => (if (t337 == t338) = true then (if t335 = 0 then ((portreeveref09_Same.f kj4 t330 t331 t332 a0_0 a0_1 l0_2).bind fun t339 => (some t339)) else (some false)) else (some false))) = some r := H
              have A23 := Aside0.mk A230
              clear A230
              replace H := Option.bind_eq_some_iff.mp H
              obtain ⟨t338, A240, H⟩ := H
              replace H : (if (t337 == t338) = true then (if t335 = 0 then ((portreeveref09_Same.f kj4 t330 t331 t332 a0_0 a0_1 l0_2).bind fun t339 => (some t339)) else (some false)) else (some false)) = some r := H
              have A24 := Aside0.mk A240
              clear A240
              by_cases c25 : (t337 == t338) = true
              · rw [if_pos c25] at H
                have c25b0 : (t337 == t338) = true := c25
                (try (have c25b1 : decide (t337 = t338) = true := by simpa using c25))
                (try (have c25b2 : (t337 == t338) = true := by simpa using c25))
                clear c25
                by_cases c26 : t335 = 0
                · rw [if_pos c26] at H
                  have c26b0 : (t335 == 0) = true := beq_iff_eq.mpr c26
                  have c26b1 : (t335 != 0) = false := bne_eq_false_iff_eq.mpr c26
                  clear c26
                  replace H := Option.bind_eq_some_iff.mp H
                  obtain ⟨t339, A270, H⟩ := H
                  replace H : (some t339) = some r := H
                  have A27 := Aside0.mk A270
                  clear A270
                  clear hlaw_
                  obtain rfl := Option.some.inj H
                  have hnb28 := NB313_314.out
                  have hnc28 := NB314_313.out
                  have hcz29_0 : wc.cell? ⟨gb313, 0, none⟩ = some (.int .u8 a0_0) := (blk_cell BK313.out 0).trans rfl
                  have hcz29_1 : wc.cell? ⟨gb313, 1, none⟩ = some (.int .u8 a0_1) := (blk_cell BK313.out 1).trans rfl
                  have hcz29_2 : wc.cell? ⟨gb313, 2, none⟩ = some (.slice A0_2 l0_2.length c0_2) := (blk_cell BK313.out 2).trans rfl
                  have hfz29_0 := blk_frozen BK313.out 0
                  have hfz29_1 := blk_frozen BK313.out 1
                  have hfz29_2 := blk_frozen BK313.out 2
                  try go_wp2_with (first | ((with_reducible refine gate_callee (f := 9) rfl ?_); refine goesL_ (some 29) rfl rfl Try.func9 (by kernel_rfl) rfl #[.agg #[.int .u8 a0_0, .int .u8 a0_1, .slice A0_2 l0_2.length c0_2]] rfl (by (try simp only [List.map_toArray, List.map_cons, List.map_nil]); first | done | rfl | (simp only [List.length_drop, List.length_take]; rfl)) ?_; (with_reducible refine (pack_Bytes.calls a0_0 a0_1 _ _ l0_2 t316 t319 _ ?side1 ?side2 A16.out).mono ?_); (case side1 => repeat (first | exact (Kd.C_below HR0_2.out HB.out) | (with_reducible refine Kd.C_alloc ?_ _) | (with_reducible refine Kd.C_drewN ?_ _) | (with_reducible refine Kd.C_drew ?_))); (case side2 => exact HC0_2.out); rintro e w30 ⟨v317, rfl, ho0, hb⟩; refine ⟨_, rfl, ?_⟩; have n0_ := Aside0.mk (Kd.R_lower ho0 (below_size (by repeat (first | (with_reducible first | exact HB.out | apply pA | apply pN | apply pD | refine pS ?_ GE313.out | refine pS ?_ GE314.out) | exact HB.out)))); have n1_ := Aside0.mk (blk_below (g := gb313) (o := .cells #[.int .u8 a0_0, .int .u8 a0_1, .slice A0_2 l0_2.length c0_2] 24 (0, 0)) (by (with_reducible repeat (first | refine qN ?_ _ | refine qD ?_ | refine qA ?_ _)); exact BK313.out) hb); have n2_ := Aside0.mk (blk_below (g := gb314) (o := .cells #[.int .u8 a1_0, .int .u8 a1_1, .slice A1_2 l1_2.length c1_2] 24 (0, 0)) (by (with_reducible repeat (first | refine qN ?_ _ | refine qD ?_ | refine qA ?_ _)); exact BK314.out) hb); have n3_ := Aside0.mk (below_step (by repeat (first | (with_reducible first | exact HB.out | apply pA | apply pN | apply pD | refine pS ?_ GE313.out | refine pS ?_ GE314.out) | exact HB.out)) hb); clear BK313; clear BK314; clear HB; have HO318 := n0_; have BK313 := n1_; have BK314 := n2_; have HB := n3_; clear n0_ n1_ n2_ n3_; (try clear hb); (try clear hb2); (try clear hk); (try clear hi); (try clear ho0); have hcz31_0 : w30.cell? ⟨gb314, 0, none⟩ = some (.int .u8 a1_0) := (blk_cell BK314.out 0).trans rfl; have hcz31_1 : w30.cell? ⟨gb314, 1, none⟩ = some (.int .u8 a1_1) := (blk_cell BK314.out 1).trans rfl; have hcz31_2 : w30.cell? ⟨gb314, 2, none⟩ = some (.slice A1_2 l1_2.length c1_2) := (blk_cell BK314.out 2).trans rfl; have hfz31_0 := blk_frozen BK314.out 0; have hfz31_1 := blk_frozen BK314.out 1; have hfz31_2 := blk_frozen BK314.out 2) | ((with_reducible refine gate_callee (f := 9) rfl ?_); refine goesL_ (some 34) rfl rfl Try.func9 (by kernel_rfl) rfl #[.agg #[.int .u8 a1_0, .int .u8 a1_1, .slice A1_2 l1_2.length c1_2]] rfl (by (try simp only [List.map_toArray, List.map_cons, List.map_nil]); first | done | rfl | (simp only [List.length_drop, List.length_take]; rfl)) ?_; (with_reducible refine (pack_Bytes.calls a1_0 a1_1 _ _ l1_2 t320 t323 _ ?side1 ?side2 A17.out).mono ?_); (case side1 => repeat (first | exact (Kd.C_below HR1_2.out HB.out) | (with_reducible refine Kd.C_alloc ?_ _) | (with_reducible refine Kd.C_drewN ?_ _) | (with_reducible refine Kd.C_drew ?_))); (case side2 => exact HC1_2.out); rintro e w32 ⟨v321, rfl, ho0, hb⟩; refine ⟨_, rfl, ?_⟩; have n0_ := Aside0.mk (Kd.R_elder' (by (with_reducible repeat (first | apply Kd.R_alloc | apply Kd.R_drewN | apply Kd.R_drew)); exact HO318.out) (Kd.R_base ho0) hb); have n1_ := Aside0.mk (Kd.R_lower (Kd.R_new' ho0 (Kd.R_lt (by (with_reducible repeat (first | apply Kd.R_alloc | apply Kd.R_drewN | apply Kd.R_drew)); exact HO318.out))) (below_size (by repeat (first | (with_reducible first | exact HB.out | apply pA | apply pN | apply pD | refine pS ?_ GE313.out | refine pS ?_ GE314.out) | exact HB.out)))); have n2_ := Aside0.mk (blk_below (g := gb313) (o := .cells #[.int .u8 a0_0, .int .u8 a0_1, .slice A0_2 l0_2.length c0_2] 24 (0, 0)) (by (with_reducible repeat (first | refine qN ?_ _ | refine qD ?_ | refine qA ?_ _)); exact BK313.out) hb); have n3_ := Aside0.mk (blk_below (g := gb314) (o := .cells #[.int .u8 a1_0, .int .u8 a1_1, .slice A1_2 l1_2.length c1_2] 24 (0, 0)) (by (with_reducible repeat (first | refine qN ?_ _ | refine qD ?_ | refine qA ?_ _)); exact BK314.out) hb); have n4_ := Aside0.mk (below_step (by repeat (first | (with_reducible first | exact HB.out | apply pA | apply pN | apply pD | refine pS ?_ GE313.out | refine pS ?_ GE314.out) | exact HB.out)) hb); clear HO318; clear BK313; clear BK314; clear HB; have HO318 := n0_; have HO322 := n1_; have BK313 := n2_; have BK314 := n3_; have HB := n4_; clear n0_ n1_ n2_ n3_ n4_; (try clear hb); (try clear hb2); (try clear hk); (try clear hi); (try clear ho0); have hcz33_0 : w32.cell? ⟨gb313, 0, none⟩ = some (.int .u8 a0_0) := (blk_cell BK313.out 0).trans rfl; have hcz33_1 : w32.cell? ⟨gb313, 1, none⟩ = some (.int .u8 a0_1) := (blk_cell BK313.out 1).trans rfl; have hcz33_2 : w32.cell? ⟨gb313, 2, none⟩ = some (.slice A0_2 l0_2.length c0_2) := (blk_cell BK313.out 2).trans rfl; have hfz33_0 := blk_frozen BK313.out 0; have hfz33_1 := blk_frozen BK313.out 1; have hfz33_2 := blk_frozen BK313.out 2) | ((with_reducible refine gate_callee (f := 17) rfl ?_); refine goesL_ (some 39) rfl rfl Try.func17 (by kernel_rfl) rfl #[.agg #[.int .u8 a0_0, .int .u8 a0_1, .slice A0_2 l0_2.length c0_2], .int .u8 a2] rfl (by (try simp only [List.map_toArray, List.map_cons, List.map_nil]); first | done | rfl | (simp only [List.length_drop, List.length_take]; rfl)) ?_; (with_reducible refine (pack_Reject.calls a0_0 a0_1 _ _ l0_2 a2 t324 t325 t326 _ ?side1 ?side2 A18.out).mono ?_); (case side1 => repeat (first | exact (Kd.C_below HR0_2.out HB.out) | (with_reducible refine Kd.C_alloc ?_ _) | (with_reducible refine Kd.C_drewN ?_ _) | (with_reducible refine Kd.C_drew ?_))); (case side2 => exact HC0_2.out); rintro e w34 ⟨v327, rfl, ho0, hb⟩; refine ⟨_, rfl, ?_⟩; have n0_ := Aside0.mk (Kd.R_below (by (with_reducible repeat (first | apply Kd.R_alloc | apply Kd.R_drewN | apply Kd.R_drew)); exact HO318.out) hb); have n1_ := Aside0.mk (Kd.R_below (by (with_reducible repeat (first | apply Kd.R_alloc | apply Kd.R_drewN | apply Kd.R_drew)); exact HO322.out) hb); have n2_ := Aside0.mk (Kd.V_lower (Kd.V_mono (ok' := fun k_ => some k_ ≠ (v317 : Value).ownBlock ∧ some k_ ≠ (v321 : Value).ownBlock ∧ k_ ≠ gb313 ∧ k_ ≠ gb314) ho0 (fun k_ hk_ => ⟨(Kd.fresh' (Kd.R_lt (by (with_reducible repeat (first | apply Kd.R_alloc | apply Kd.R_drewN | apply Kd.R_drew)); exact HO318.out)) k_ hk_), (Kd.fresh' (Kd.R_lt (by (with_reducible repeat (first | apply Kd.R_alloc | apply Kd.R_drewN | apply Kd.R_drew)); exact HO322.out)) k_ hk_), (Kd.freshB (g := gb313) (o := .cells #[.int .u8 a0_0, .int .u8 a0_1, .slice A0_2 l0_2.length c0_2] 24 (0, 0)) (by (with_reducible repeat (first | refine qN ?_ _ | refine qD ?_ | refine qA ?_ _)); exact BK313.out) k_ hk_), (Kd.freshB (g := gb314) (o := .cells #[.int .u8 a1_0, .int .u8 a1_1, .slice A1_2 l1_2.length c1_2] 24 (0, 0)) (by (with_reducible repeat (first | refine qN ?_ _ | refine qD ?_ | refine qA ?_ _)); exact BK314.out) k_ hk_)⟩)) (below_size (by repeat (first | (with_reducible first | exact HB.out | apply pA | apply pN | apply pD | refine pS ?_ GE313.out | refine pS ?_ GE314.out) | exact HB.out)))); have n3_ := Aside0.mk (blk_below (g := gb313) (o := .cells #[.int .u8 a0_0, .int .u8 a0_1, .slice A0_2 l0_2.length c0_2] 24 (0, 0)) (by (with_reducible repeat (first | refine qN ?_ _ | refine qD ?_ | refine qA ?_ _)); exact BK313.out) hb); have n4_ := Aside0.mk (blk_below (g := gb314) (o := .cells #[.int .u8 a1_0, .int .u8 a1_1, .slice A1_2 l1_2.length c1_2] 24 (0, 0)) (by (with_reducible repeat (first | refine qN ?_ _ | refine qD ?_ | refine qA ?_ _)); exact BK314.out) hb); have n5_ := Aside0.mk (below_step (by repeat (first | (with_reducible first | exact HB.out | apply pA | apply pN | apply pD | refine pS ?_ GE313.out | refine pS ?_ GE314.out) | exact HB.out)) hb); clear HO318; clear HO322; clear BK313; clear BK314; clear HB; have HO318 := n0_; have HO322 := n1_; have HO328 := n2_; have BK313 := n3_; have BK314 := n4_; have HB := n5_; clear n0_ n1_ n2_ n3_ n4_ n5_; (try clear hb); (try clear hb2); (try clear hk); (try clear hi); (try clear ho0)) | ((with_reducible refine gate_dst (N := 12) rfl ?_); (try (refine gate_guard (by rfl) ?_; dsimp only)); refine box_event ?hg (N := 12) ?hd (cs := #[.int .u8 0, .int .u8 0, .slice none 0 0]) (t := 24) ?hr ?_; (case hd => rfl); (case hg => rfl); (case hr => first | (go_simp; done) | (go_simp; rfl)); intro gb329 hg w35 hbox hb; have n0_ := Aside0.mk (Kd.R_below (by (with_reducible repeat (first | apply Kd.R_alloc | apply Kd.R_drewN | apply Kd.R_drew)); exact HO318.out) hb); have n1_ := Aside0.mk (Kd.R_below (by (with_reducible repeat (first | apply Kd.R_alloc | apply Kd.R_drewN | apply Kd.R_drew)); exact HO322.out) hb); have n2_ := Aside0.mk (Kd.V_below (Kd.V_elderB (by (with_reducible repeat (first | apply Kd.V_alloc | apply Kd.V_drewN | apply Kd.V_drew)); exact HO328.out) gb329 (Nat.le_of_eq hg.symm)) hb); have n3_ := Aside0.mk (blk_below (g := gb313) (o := .cells #[.int .u8 a0_0, .int .u8 a0_1, .slice A0_2 l0_2.length c0_2] 24 (0, 0)) (by (with_reducible repeat (first | refine qN ?_ _ | refine qD ?_ | refine qA ?_ _)); exact BK313.out) hb); have n4_ := Aside0.mk (blk_below (g := gb314) (o := .cells #[.int .u8 a1_0, .int .u8 a1_1, .slice A1_2 l1_2.length c1_2] 24 (0, 0)) (by (with_reducible repeat (first | refine qN ?_ _ | refine qD ?_ | refine qA ?_ _)); exact BK314.out) hb); have n5_ := Aside0.mk (below_step (by repeat (first | (with_reducible first | exact HB.out | apply pA | apply pN | apply pD | refine pS ?_ GE313.out | refine pS ?_ GE314.out) | exact HB.out)) hb); have n6_ := Aside0.mk (hbox); have n7_ := Aside0.mk ((by rw [hg]; exact (below_size (by repeat (first | (with_reducible first | exact HB.out | apply pA | apply pN | apply pD | refine pS ?_ GE313.out | refine pS ?_ GE314.out) | exact HB.out))) : w.heap.size ≤ gb329)); have n8_ := Aside0.mk ((by rw [hg]; exact (below_size (by repeat (first | (with_reducible first | exact HB.out | apply pA | apply pN | apply pD | refine pS ?_ GE313.out | refine pS ?_ GE314.out) | exact HB.out))) : w.heap.size ≤ gb329)); have n9_ := Aside0.mk ((by rw [hg]; exact Nat.ne_of_lt (blk_lt (g := gb313) (o := .cells #[.int .u8 a0_0, .int .u8 a0_1, .slice A0_2 l0_2.length c0_2] 24 (0, 0)) (by (with_reducible repeat (first | refine qN ?_ _ | refine qD ?_ | refine qA ?_ _)); exact BK313.out)) : gb313 ≠ gb329)); have n10_ := Aside0.mk ((by rw [hg]; exact Nat.ne_of_gt (blk_lt (g := gb313) (o := .cells #[.int .u8 a0_0, .int .u8 a0_1, .slice A0_2 l0_2.length c0_2] 24 (0, 0)) (by (with_reducible repeat (first | refine qN ?_ _ | refine qD ?_ | refine qA ?_ _)); exact BK313.out)) : gb329 ≠ gb313)); have n11_ := Aside0.mk ((by rw [hg]; exact Nat.ne_of_lt (blk_lt (g := gb314) (o := .cells #[.int .u8 a1_0, .int .u8 a1_1, .slice A1_2 l1_2.length c1_2] 24 (0, 0)) (by (with_reducible repeat (first | refine qN ?_ _ | refine qD ?_ | refine qA ?_ _)); exact BK314.out)) : gb314 ≠ gb329)); have n12_ := Aside0.mk ((by rw [hg]; exact Nat.ne_of_gt (blk_lt (g := gb314) (o := .cells #[.int .u8 a1_0, .int .u8 a1_1, .slice A1_2 l1_2.length c1_2] 24 (0, 0)) (by (with_reducible repeat (first | refine qN ?_ _ | refine qD ?_ | refine qA ?_ _)); exact BK314.out)) : gb329 ≠ gb314)); clear HO318; clear HO322; clear HO328; clear BK313; clear BK314; clear HB; have HO318 := n0_; have HO322 := n1_; have HO328 := n2_; have BK313 := n3_; have BK314 := n4_; have HB := n5_; have BK329 := n6_; have GW329 := n7_; have GE329 := n8_; have NB313_329 := n9_; have NB329_313 := n10_; have NB314_329 := n11_; have NB329_314 := n12_; clear n0_ n1_ n2_ n3_ n4_ n5_ n6_ n7_ n8_ n9_ n10_ n11_ n12_; clear hb hbox hg; have hnb36 := NB329_313.out; have hnc36 := NB313_329.out; have hnb37 := NB329_314.out; have hnc37 := NB314_329.out; have hcz38_0 : w35.cell? ⟨gb329, 0, none⟩ = some (.int .u8 0) := (blk_cell BK329.out 0).trans rfl; have hcz38_1 : w35.cell? ⟨gb329, 1, none⟩ = some (.int .u8 0) := (blk_cell BK329.out 1).trans rfl; have hcz38_2 : w35.cell? ⟨gb329, 2, none⟩ = some (.slice none 0 0) := (blk_cell BK329.out 2).trans rfl; have hfz38_0 := blk_frozen BK329.out 0; have hfz38_1 := blk_frozen BK329.out 1; have hfz38_2 := blk_frozen BK329.out 2; obtain ⟨Ao39, co39, eo39⟩ := Kd.V_slice HO328.out; subst eo39) | ((with_reducible refine gate_store (t := 24) (p := 12) rfl ?_); refine store_event (t := 24) (p := 12) (v := ?vo_w40) (w1 := (((w35.setCell ⟨gb329, 0, none⟩ (.int .u8 t324)).setCell ⟨gb329, 1, none⟩ (.int .u8 t325)).setCell ⟨gb329, 2, none⟩ (.slice Ao39 t326.length co39))) ?hg ?ho ?hn ?hr ?_; (case ho => rfl); (case hg => rfl); (case hn => rfl); (case hr => first | (go_simp; done) | (go_simp; rfl)); intro w40 hw; have n0_ : Aside0 (Kd.R (Kd.int .u8) 5 w40 w.heap.size (fun k_ => some k_ ≠ (v321 : Value).ownBlock) v317 t316) := ⟨(by rw [hw]; exact (by (with_reducible repeat (first | apply Kd.R_alloc | apply Kd.R_drewN | apply Kd.R_drew)); exact Kd.R_mono (Kd.R_far (p := ⟨gb329, 2, none⟩) (Kd.R_far (p := ⟨gb329, 1, none⟩) (Kd.R_far (p := ⟨gb329, 0, none⟩) (Kd.R_types HO318.out BK329.out (by decide)) (fun _ hk => hk.2) (.int .u8 t324)) (fun _ hk => hk.2) (.int .u8 t325)) (fun _ hk => hk.2) (.slice Ao39 t326.length co39)) (fun _ hk => hk.1.2)))⟩; have n1_ : Aside0 (Kd.R (Kd.int .u8) 5 w40 w.heap.size (fun k_ => some k_ ≠ (v317 : Value).ownBlock) v321 t320) := ⟨(by rw [hw]; exact (by (with_reducible repeat (first | apply Kd.R_alloc | apply Kd.R_drewN | apply Kd.R_drew)); exact Kd.R_mono (Kd.R_far (p := ⟨gb329, 2, none⟩) (Kd.R_far (p := ⟨gb329, 1, none⟩) (Kd.R_far (p := ⟨gb329, 0, none⟩) (Kd.R_types HO322.out BK329.out (by decide)) (fun _ hk => hk.2) (.int .u8 t324)) (fun _ hk => hk.2) (.int .u8 t325)) (fun _ hk => hk.2) (.slice Ao39 t326.length co39)) (fun _ hk => hk.1.2)))⟩; have n2_ : Aside0 (Kd.V (Kd.int .u8) 5 w40 w.heap.size (fun k_ => some k_ ≠ (v317 : Value).ownBlock ∧ some k_ ≠ (v321 : Value).ownBlock ∧ k_ ≠ gb313 ∧ k_ ≠ gb314 ∧ k_ ≠ gb329) (.slice Ao39 t326.length co39) t326) := ⟨(by rw [hw]; exact (by (with_reducible repeat (first | apply Kd.V_alloc | apply Kd.V_drewN | apply Kd.V_drew)); exact Kd.V_mono (Kd.V_far (p := ⟨gb329, 2, none⟩) (Kd.V_far (p := ⟨gb329, 1, none⟩) (Kd.V_far (p := ⟨gb329, 0, none⟩) (Kd.V_mono HO328.out (fun k_ hk => (⟨hk, hk.2⟩ : _ ∧ k_ ≠ gb329))) (fun _ hk => hk.2) (.int .u8 t324)) (fun _ hk => hk.2) (.int .u8 t325)) (fun _ hk => hk.2) (.slice Ao39 t326.length co39)) (fun _ hk => ⟨hk.1.1.1, ⟨hk.1.1.2.1, ⟨hk.1.1.2.2.1, ⟨hk.1.1.2.2.2, hk.1.2⟩⟩⟩⟩)))⟩; have n3_ : Aside0 (w40.heap[gb313]? = some (.cells #[.int .u8 a0_0, .int .u8 a0_1, .slice A0_2 l0_2.length c0_2] 24 (0, 0))) := ⟨(by rw [hw]; exact (by (with_reducible repeat (first | refine qN ?_ _ | refine qD ?_ | refine qA ?_ _)); refine blk_far ?_ NB313_329.out _; (with_reducible repeat (first | refine qN ?_ _ | refine qD ?_ | refine qA ?_ _)); refine blk_far ?_ NB313_329.out _; (with_reducible repeat (first | refine qN ?_ _ | refine qD ?_ | refine qA ?_ _)); refine blk_far ?_ NB313_329.out _; (with_reducible repeat (first | refine qN ?_ _ | refine qD ?_ | refine qA ?_ _)); exact BK313.out))⟩; have n4_ : Aside0 (w40.heap[gb314]? = some (.cells #[.int .u8 a1_0, .int .u8 a1_1, .slice A1_2 l1_2.length c1_2] 24 (0, 0))) := ⟨(by rw [hw]; exact (by (with_reducible repeat (first | refine qN ?_ _ | refine qD ?_ | refine qA ?_ _)); refine blk_far ?_ NB314_329.out _; (with_reducible repeat (first | refine qN ?_ _ | refine qD ?_ | refine qA ?_ _)); refine blk_far ?_ NB314_329.out _; (with_reducible repeat (first | refine qN ?_ _ | refine qD ?_ | refine qA ?_ _)); refine blk_far ?_ NB314_329.out _; (with_reducible repeat (first | refine qN ?_ _ | refine qD ?_ | refine qA ?_ _)); exact BK314.out))⟩; have n5_ : Aside0 (w40.heap[gb329]? = some (.cells #[.int .u8 t324, .int .u8 t325, .slice Ao39 t326.length co39] 24 (0, 0))) := ⟨(by rw [hw]; exact (by (with_reducible repeat (first | refine qN ?_ _ | refine qD ?_ | refine qA ?_ _)); refine blk_put (cs := #[.int .u8 t324, .int .u8 t325, .slice none 0 0]) ?_ 2 _ rfl; (with_reducible repeat (first | refine qN ?_ _ | refine qD ?_ | refine qA ?_ _)); refine blk_put (cs := #[.int .u8 t324, .int .u8 0, .slice none 0 0]) ?_ 1 _ rfl; (with_reducible repeat (first | refine qN ?_ _ | refine qD ?_ | refine qA ?_ _)); refine blk_put (cs := #[.int .u8 0, .int .u8 0, .slice none 0 0]) ?_ 0 _ rfl; (with_reducible repeat (first | refine qN ?_ _ | refine qD ?_ | refine qA ?_ _)); exact BK329.out))⟩; have n6_ : Aside0 (Below w.heap.size w w40) := ⟨(by rw [hw]; exact (by repeat (first | (with_reducible first | exact HB.out | apply pA | apply pN | apply pD | refine pS ?_ GE313.out | refine pS ?_ GE314.out | refine pS ?_ GE329.out) | exact HB.out)))⟩; clear hw; clear HO318; clear HO322; clear HO328; clear BK313; clear BK314; clear BK329; clear HB; have HO318 := n0_; have HO322 := n1_; have HO328 := n2_; have BK313 := n3_; have BK314 := n4_; have BK329 := n5_; have HB := n6_; clear n0_ n1_ n2_ n3_ n4_ n5_ n6_; have hcz41_0 : w40.cell? ⟨gb329, 0, none⟩ = some (.int .u8 t324) := (blk_cell BK329.out 0).trans rfl; have hcz41_1 : w40.cell? ⟨gb329, 1, none⟩ = some (.int .u8 t325) := (blk_cell BK329.out 1).trans rfl; have hcz41_2 : w40.cell? ⟨gb329, 2, none⟩ = some (.slice Ao39 t326.length co39) := (blk_cell BK329.out 2).trans rfl; have hfz41_0 := blk_frozen BK329.out 0; have hfz41_1 := blk_frozen BK329.out 1; have hfz41_2 := blk_frozen BK329.out 2) | ((with_reducible refine gate_callee (f := 11) rfl ?_); refine goesL_ (some 43) rfl rfl Try.func11 (by kernel_rfl) rfl #[.slice Ao39 t326.length co39] rfl (by (try simp only [List.map_toArray, List.map_cons, List.map_nil]); first | done | rfl | (simp only [List.length_drop, List.length_take]; rfl)) ?_; (with_reducible refine (pack_Read.calls kj4 (fun k_ => (some k_ ≠ (v317 : Value).ownBlock ∧ (some k_ ≠ (v321 : Value).ownBlock ∧ (k_ ≠ gb313 ∧ (k_ ≠ gb314 ∧ k_ ≠ gb329))))) _ _ t326 t330 t331 t332 t335 _ ?side1 A19.out).mono ?_); (case side1 => exact HO328.out); rintro e w42 ⟨v333, rfl, ho0, hb⟩; refine ⟨_, rfl, ?_⟩; have n0_ := Aside0.mk (Kd.R_below (by (with_reducible repeat (first | apply Kd.R_alloc | apply Kd.R_drewN | apply Kd.R_drew)); exact HO318.out) hb); have n1_ := Aside0.mk (Kd.R_below (by (with_reducible repeat (first | apply Kd.R_alloc | apply Kd.R_drewN | apply Kd.R_drew)); exact HO322.out) hb); have n2_ := Aside0.mk (Kd.V_below (by (with_reducible repeat (first | apply Kd.V_alloc | apply Kd.V_drewN | apply Kd.V_drew)); exact HO328.out) hb); have n3_ := Aside0.mk (Kd.V_lower (Kd.V_mono (ok' := fun k_ => some k_ ≠ (v317 : Value).ownBlock ∧ some k_ ≠ (v321 : Value).ownBlock ∧ k_ ≠ gb313 ∧ k_ ≠ gb314 ∧ k_ ≠ gb329) ho0 (fun k_ hk_ => ⟨Or.elim hk_ (fun hs_ => hs_.1) (fun hn_ => (Kd.fresh' (Kd.R_lt (by (with_reducible repeat (first | apply Kd.R_alloc | apply Kd.R_drewN | apply Kd.R_drew)); exact HO318.out)) k_ hn_)), Or.elim hk_ (fun hs_ => hs_.2.1) (fun hn_ => (Kd.fresh' (Kd.R_lt (by (with_reducible repeat (first | apply Kd.R_alloc | apply Kd.R_drewN | apply Kd.R_drew)); exact HO322.out)) k_ hn_)), Or.elim hk_ (fun hs_ => hs_.2.2.1) (fun hn_ => (Kd.freshB (g := gb313) (o := .cells #[.int .u8 a0_0, .int .u8 a0_1, .slice A0_2 l0_2.length c0_2] 24 (0, 0)) (by (with_reducible repeat (first | refine qN ?_ _ | refine qD ?_ | refine qA ?_ _)); exact BK313.out) k_ hn_)), Or.elim hk_ (fun hs_ => hs_.2.2.2.1) (fun hn_ => (Kd.freshB (g := gb314) (o := .cells #[.int .u8 a1_0, .int .u8 a1_1, .slice A1_2 l1_2.length c1_2] 24 (0, 0)) (by (with_reducible repeat (first | refine qN ?_ _ | refine qD ?_ | refine qA ?_ _)); exact BK314.out) k_ hn_)), Or.elim hk_ (fun hs_ => hs_.2.2.2.2) (fun hn_ => (Kd.freshB (g := gb329) (o := .cells #[.int .u8 t324, .int .u8 t325, .slice Ao39 t326.length co39] 24 (0, 0)) (by (with_reducible repeat (first | refine qN ?_ _ | refine qD ?_ | refine qA ?_ _)); exact BK329.out) k_ hn_))⟩)) (below_size (by repeat (first | (with_reducible first | exact HB.out | apply pA | apply pN | apply pD | refine pS ?_ GE313.out | refine pS ?_ GE314.out | refine pS ?_ GE329.out) | exact HB.out)))); have n4_ := Aside0.mk (blk_below (g := gb313) (o := .cells #[.int .u8 a0_0, .int .u8 a0_1, .slice A0_2 l0_2.length c0_2] 24 (0, 0)) (by (with_reducible repeat (first | refine qN ?_ _ | refine qD ?_ | refine qA ?_ _)); exact BK313.out) hb); have n5_ := Aside0.mk (blk_below (g := gb314) (o := .cells #[.int .u8 a1_0, .int .u8 a1_1, .slice A1_2 l1_2.length c1_2] 24 (0, 0)) (by (with_reducible repeat (first | refine qN ?_ _ | refine qD ?_ | refine qA ?_ _)); exact BK314.out) hb); have n6_ := Aside0.mk (blk_below (g := gb329) (o := .cells #[.int .u8 t324, .int .u8 t325, .slice Ao39 t326.length co39] 24 (0, 0)) (by (with_reducible repeat (first | refine qN ?_ _ | refine qD ?_ | refine qA ?_ _)); exact BK329.out) hb); have n7_ := Aside0.mk (below_step (by repeat (first | (with_reducible first | exact HB.out | apply pA | apply pN | apply pD | refine pS ?_ GE313.out | refine pS ?_ GE314.out | refine pS ?_ GE329.out) | exact HB.out)) hb); clear HO318; clear HO322; clear HO328; clear BK313; clear BK314; clear BK329; clear HB; have HO318 := n0_; have HO322 := n1_; have HO328 := n2_; have HO334 := n3_; have BK313 := n4_; have BK314 := n5_; have BK329 := n6_; have HB := n7_; clear n0_ n1_ n2_ n3_ n4_ n5_ n6_ n7_; (try clear hb); (try clear hb2); (try clear hk); (try clear hi); (try clear ho0)) | ((with_reducible refine gate_dst (N := 13) rfl ?_); (try (refine gate_guard (by rfl) ?_; dsimp only)); refine box_event ?hg (N := 13) ?hd (cs := #[.int .u8 0, .int .u8 0, .slice none 0 0]) (t := 24) ?hr ?_; (case hd => rfl); (case hg => rfl); (case hr => first | (go_simp; done) | (go_simp; rfl)); intro gb336 hg w43 hbox hb; have n0_ := Aside0.mk (Kd.R_below (by (with_reducible repeat (first | apply Kd.R_alloc | apply Kd.R_drewN | apply Kd.R_drew)); exact HO318.out) hb); have n1_ := Aside0.mk (Kd.R_below (by (with_reducible repeat (first | apply Kd.R_alloc | apply Kd.R_drewN | apply Kd.R_drew)); exact HO322.out) hb); have n2_ := Aside0.mk (Kd.V_below (Kd.V_elderB (by (with_reducible repeat (first | apply Kd.V_alloc | apply Kd.V_drewN | apply Kd.V_drew)); exact HO328.out) gb336 (Nat.le_of_eq hg.symm)) hb); have n3_ := Aside0.mk (Kd.V_below (Kd.V_elderB (by (with_reducible repeat (first | apply Kd.V_alloc | apply Kd.V_drewN | apply Kd.V_drew)); exact HO334.out) gb336 (Nat.le_of_eq hg.symm)) hb); have n4_ := Aside0.mk (blk_below (g := gb313) (o := .cells #[.int .u8 a0_0, .int .u8 a0_1, .slice A0_2 l0_2.length c0_2] 24 (0, 0)) (by (with_reducible repeat (first | refine qN ?_ _ | refine qD ?_ | refine qA ?_ _)); exact BK313.out) hb); have n5_ := Aside0.mk (blk_below (g := gb314) (o := .cells #[.int .u8 a1_0, .int .u8 a1_1, .slice A1_2 l1_2.length c1_2] 24 (0, 0)) (by (with_reducible repeat (first | refine qN ?_ _ | refine qD ?_ | refine qA ?_ _)); exact BK314.out) hb); have n6_ := Aside0.mk (blk_below (g := gb329) (o := .cells #[.int .u8 t324, .int .u8 t325, .slice Ao39 t326.length co39] 24 (0, 0)) (by (with_reducible repeat (first | refine qN ?_ _ | refine qD ?_ | refine qA ?_ _)); exact BK329.out) hb); have n7_ := Aside0.mk (below_step (by repeat (first | (with_reducible first | exact HB.out | apply pA | apply pN | apply pD | refine pS ?_ GE313.out | refine pS ?_ GE314.out | refine pS ?_ GE329.out) | exact HB.out)) hb); have n8_ := Aside0.mk (hbox); have n9_ := Aside0.mk ((by rw [hg]; exact (below_size (by repeat (first | (with_reducible first | exact HB.out | apply pA | apply pN | apply pD | refine pS ?_ GE313.out | refine pS ?_ GE314.out | refine pS ?_ GE329.out) | exact HB.out))) : w.heap.size ≤ gb336)); have n10_ := Aside0.mk ((by rw [hg]; exact (below_size (by repeat (first | (with_reducible first | exact HB.out | apply pA | apply pN | apply pD | refine pS ?_ GE313.out | refine pS ?_ GE314.out | refine pS ?_ GE329.out) | exact HB.out))) : w.heap.size ≤ gb336)); have n11_ := Aside0.mk ((by rw [hg]; exact Nat.ne_of_lt (blk_lt (g := gb313) (o := .cells #[.int .u8 a0_0, .int .u8 a0_1, .slice A0_2 l0_2.length c0_2] 24 (0, 0)) (by (with_reducible repeat (first | refine qN ?_ _ | refine qD ?_ | refine qA ?_ _)); exact BK313.out)) : gb313 ≠ gb336)); have n12_ := Aside0.mk ((by rw [hg]; exact Nat.ne_of_gt (blk_lt (g := gb313) (o := .cells #[.int .u8 a0_0, .int .u8 a0_1, .slice A0_2 l0_2.length c0_2] 24 (0, 0)) (by (with_reducible repeat (first | refine qN ?_ _ | refine qD ?_ | refine qA ?_ _)); exact BK313.out)) : gb336 ≠ gb313)); have n13_ := Aside0.mk ((by rw [hg]; exact Nat.ne_of_lt (blk_lt (g := gb314) (o := .cells #[.int .u8 a1_0, .int .u8 a1_1, .slice A1_2 l1_2.length c1_2] 24 (0, 0)) (by (with_reducible repeat (first | refine qN ?_ _ | refine qD ?_ | refine qA ?_ _)); exact BK314.out)) : gb314 ≠ gb336)); have n14_ := Aside0.mk ((by rw [hg]; exact Nat.ne_of_gt (blk_lt (g := gb314) (o := .cells #[.int .u8 a1_0, .int .u8 a1_1, .slice A1_2 l1_2.length c1_2] 24 (0, 0)) (by (with_reducible repeat (first | refine qN ?_ _ | refine qD ?_ | refine qA ?_ _)); exact BK314.out)) : gb336 ≠ gb314)); have n15_ := Aside0.mk ((by rw [hg]; exact Nat.ne_of_lt (blk_lt (g := gb329) (o := .cells #[.int .u8 t324, .int .u8 t325, .slice Ao39 t326.length co39] 24 (0, 0)) (by (with_reducible repeat (first | refine qN ?_ _ | refine qD ?_ | refine qA ?_ _)); exact BK329.out)) : gb329 ≠ gb336)); have n16_ := Aside0.mk ((by rw [hg]; exact Nat.ne_of_gt (blk_lt (g := gb329) (o := .cells #[.int .u8 t324, .int .u8 t325, .slice Ao39 t326.length co39] 24 (0, 0)) (by (with_reducible repeat (first | refine qN ?_ _ | refine qD ?_ | refine qA ?_ _)); exact BK329.out)) : gb336 ≠ gb329)); clear HO318; clear HO322; clear HO328; clear HO334; clear BK313; clear BK314; clear BK329; clear HB; have HO318 := n0_; have HO322 := n1_; have HO328 := n2_; have HO334 := n3_; have BK313 := n4_; have BK314 := n5_; have BK329 := n6_; have HB := n7_; have BK336 := n8_; have GW336 := n9_; have GE336 := n10_; have NB313_336 := n11_; have NB336_313 := n12_; have NB314_336 := n13_; have NB336_314 := n14_; have NB329_336 := n15_; have NB336_329 := n16_; clear n0_ n1_ n2_ n3_ n4_ n5_ n6_ n7_ n8_ n9_ n10_ n11_ n12_ n13_ n14_ n15_ n16_; clear hb hbox hg; have hnb44 := NB336_313.out; have hnc44 := NB313_336.out; have hnb45 := NB336_314.out; have hnc45 := NB314_336.out; have hnb46 := NB336_329.out; have hnc46 := NB329_336.out; have hcz47_0 : w43.cell? ⟨gb336, 0, none⟩ = some (.int .u8 0) := (blk_cell BK336.out 0).trans rfl; have hcz47_1 : w43.cell? ⟨gb336, 1, none⟩ = some (.int .u8 0) := (blk_cell BK336.out 1).trans rfl; have hcz47_2 : w43.cell? ⟨gb336, 2, none⟩ = some (.slice none 0 0) := (blk_cell BK336.out 2).trans rfl; have hfz47_0 := blk_frozen BK336.out 0; have hfz47_1 := blk_frozen BK336.out 1; have hfz47_2 := blk_frozen BK336.out 2; obtain ⟨Ao48, co48, eo48⟩ := Kd.V_slice HO334.out; subst eo48))
                  have n0_ : Aside0 (Kd.R (Kd.int .u8) 5 (((w43.setCell ⟨gb336, 0, none⟩ (.int .u8 t330)).setCell ⟨gb336, 1, none⟩ (.int .u8 t331)).setCell ⟨gb336, 2, none⟩ (.slice Ao48 t332.length co48)) w.heap.size (fun k_ => some k_ ≠ (v321 : Value).ownBlock) v317 t316) := ⟨by (with_reducible repeat (first | apply Kd.R_alloc | apply Kd.R_drewN | apply Kd.R_drew)); exact Kd.R_mono (Kd.R_far (p := ⟨gb336, 2, none⟩) (Kd.R_far (p := ⟨gb336, 1, none⟩) (Kd.R_far (p := ⟨gb336, 0, none⟩) (Kd.R_types HO318.out BK336.out (by decide)) (fun _ hk => hk.2) (.int .u8 t330)) (fun _ hk => hk.2) (.int .u8 t331)) (fun _ hk => hk.2) (.slice Ao48 t332.length co48)) (fun _ hk => hk.1)⟩
                  have n1_ : Aside0 (Kd.R (Kd.int .u8) 5 (((w43.setCell ⟨gb336, 0, none⟩ (.int .u8 t330)).setCell ⟨gb336, 1, none⟩ (.int .u8 t331)).setCell ⟨gb336, 2, none⟩ (.slice Ao48 t332.length co48)) w.heap.size (fun k_ => some k_ ≠ (v317 : Value).ownBlock) v321 t320) := ⟨by (with_reducible repeat (first | apply Kd.R_alloc | apply Kd.R_drewN | apply Kd.R_drew)); exact Kd.R_mono (Kd.R_far (p := ⟨gb336, 2, none⟩) (Kd.R_far (p := ⟨gb336, 1, none⟩) (Kd.R_far (p := ⟨gb336, 0, none⟩) (Kd.R_types HO322.out BK336.out (by decide)) (fun _ hk => hk.2) (.int .u8 t330)) (fun _ hk => hk.2) (.int .u8 t331)) (fun _ hk => hk.2) (.slice Ao48 t332.length co48)) (fun _ hk => hk.1)⟩
                  have n2_ : Aside0 (Kd.V (Kd.int .u8) 5 (((w43.setCell ⟨gb336, 0, none⟩ (.int .u8 t330)).setCell ⟨gb336, 1, none⟩ (.int .u8 t331)).setCell ⟨gb336, 2, none⟩ (.slice Ao48 t332.length co48)) w.heap.size (fun k_ => some k_ ≠ (v317 : Value).ownBlock ∧ some k_ ≠ (v321 : Value).ownBlock ∧ k_ ≠ gb313 ∧ k_ ≠ gb314 ∧ k_ ≠ gb329 ∧ k_ ≠ gb336) (.slice Ao39 t326.length co39) t326) := ⟨by (with_reducible repeat (first | apply Kd.V_alloc | apply Kd.V_drewN | apply Kd.V_drew)); exact Kd.V_mono (Kd.V_far (p := ⟨gb336, 2, none⟩) (Kd.V_far (p := ⟨gb336, 1, none⟩) (Kd.V_far (p := ⟨gb336, 0, none⟩) (Kd.V_mono HO328.out (fun k_ hk => (⟨hk, hk.2⟩ : _ ∧ k_ ≠ gb336))) (fun _ hk => hk.2) (.int .u8 t330)) (fun _ hk => hk.2) (.int .u8 t331)) (fun _ hk => hk.2) (.slice Ao48 t332.length co48)) (fun _ hk => ⟨hk.1.1.1, ⟨hk.1.1.2.1, ⟨hk.1.1.2.2.1, ⟨hk.1.1.2.2.2.1, ⟨hk.1.1.2.2.2.2, hk.1.2⟩⟩⟩⟩⟩)⟩
                  have n3_ : Aside0 (Kd.V (Kd.int .u8) 5 (((w43.setCell ⟨gb336, 0, none⟩ (.int .u8 t330)).setCell ⟨gb336, 1, none⟩ (.int .u8 t331)).setCell ⟨gb336, 2, none⟩ (.slice Ao48 t332.length co48)) w.heap.size (fun k_ => some k_ ≠ (v317 : Value).ownBlock ∧ some k_ ≠ (v321 : Value).ownBlock ∧ k_ ≠ gb313 ∧ k_ ≠ gb314 ∧ k_ ≠ gb329 ∧ k_ ≠ gb336) (.slice Ao48 t332.length co48) t332) := ⟨by (with_reducible repeat (first | apply Kd.V_alloc | apply Kd.V_drewN | apply Kd.V_drew)); exact Kd.V_mono (Kd.V_far (p := ⟨gb336, 2, none⟩) (Kd.V_far (p := ⟨gb336, 1, none⟩) (Kd.V_far (p := ⟨gb336, 0, none⟩) (Kd.V_mono HO334.out (fun k_ hk => (⟨hk, hk.2⟩ : _ ∧ k_ ≠ gb336))) (fun _ hk => hk.2) (.int .u8 t330)) (fun _ hk => hk.2) (.int .u8 t331)) (fun _ hk => hk.2) (.slice Ao48 t332.length co48)) (fun _ hk => ⟨hk.1.1.1, ⟨hk.1.1.2.1, ⟨hk.1.1.2.2.1, ⟨hk.1.1.2.2.2.1, ⟨hk.1.1.2.2.2.2, hk.1.2⟩⟩⟩⟩⟩)⟩
                  have n4_ : Aside0 ((((w43.setCell ⟨gb336, 0, none⟩ (.int .u8 t330)).setCell ⟨gb336, 1, none⟩ (.int .u8 t331)).setCell ⟨gb336, 2, none⟩ (.slice Ao48 t332.length co48)).heap[gb313]? = some (.cells #[.int .u8 a0_0, .int .u8 a0_1, .slice A0_2 l0_2.length c0_2] 24 (0, 0))) := ⟨by (with_reducible repeat (first | refine qN ?_ _ | refine qD ?_ | refine qA ?_ _)); refine blk_far ?_ NB313_336.out _; (with_reducible repeat (first | refine qN ?_ _ | refine qD ?_ | refine qA ?_ _)); refine blk_far ?_ NB313_336.out _; (with_reducible repeat (first | refine qN ?_ _ | refine qD ?_ | refine qA ?_ _)); refine blk_far ?_ NB313_336.out _; (with_reducible repeat (first | refine qN ?_ _ | refine qD ?_ | refine qA ?_ _)); exact BK313.out⟩
                  have n5_ : Aside0 ((((w43.setCell ⟨gb336, 0, none⟩ (.int .u8 t330)).setCell ⟨gb336, 1, none⟩ (.int .u8 t331)).setCell ⟨gb336, 2, none⟩ (.slice Ao48 t332.length co48)).heap[gb314]? = some (.cells #[.int .u8 a1_0, .int .u8 a1_1, .slice A1_2 l1_2.length c1_2] 24 (0, 0))) := ⟨by (with_reducible repeat (first | refine qN ?_ _ | refine qD ?_ | refine qA ?_ _)); refine blk_far ?_ NB314_336.out _; (with_reducible repeat (first | refine qN ?_ _ | refine qD ?_ | refine qA ?_ _)); refine blk_far ?_ NB314_336.out _; (with_reducible repeat (first | refine qN ?_ _ | refine qD ?_ | refine qA ?_ _)); refine blk_far ?_ NB314_336.out _; (with_reducible repeat (first | refine qN ?_ _ | refine qD ?_ | refine qA ?_ _)); exact BK314.out⟩
                  have n6_ : Aside0 ((((w43.setCell ⟨gb336, 0, none⟩ (.int .u8 t330)).setCell ⟨gb336, 1, none⟩ (.int .u8 t331)).setCell ⟨gb336, 2, none⟩ (.slice Ao48 t332.length co48)).heap[gb329]? = some (.cells #[.int .u8 t324, .int .u8 t325, .slice Ao39 t326.length co39] 24 (0, 0))) := ⟨by (with_reducible repeat (first | refine qN ?_ _ | refine qD ?_ | refine qA ?_ _)); refine blk_far ?_ NB329_336.out _; (with_reducible repeat (first | refine qN ?_ _ | refine qD ?_ | refine qA ?_ _)); refine blk_far ?_ NB329_336.out _; (with_reducible repeat (first | refine qN ?_ _ | refine qD ?_ | refine qA ?_ _)); refine blk_far ?_ NB329_336.out _; (with_reducible repeat (first | refine qN ?_ _ | refine qD ?_ | refine qA ?_ _)); exact BK329.out⟩
                  have n7_ : Aside0 ((((w43.setCell ⟨gb336, 0, none⟩ (.int .u8 t330)).setCell ⟨gb336, 1, none⟩ (.int .u8 t331)).setCell ⟨gb336, 2, none⟩ (.slice Ao48 t332.length co48)).heap[gb336]? = some (.cells #[.int .u8 t330, .int .u8 t331, .slice Ao48 t332.length co48] 24 (0, 0))) := ⟨by (with_reducible repeat (first | refine qN ?_ _ | refine qD ?_ | refine qA ?_ _)); refine blk_put (cs := #[.int .u8 t330, .int .u8 t331, .slice none 0 0]) ?_ 2 _ rfl; (with_reducible repeat (first | refine qN ?_ _ | refine qD ?_ | refine qA ?_ _)); refine blk_put (cs := #[.int .u8 t330, .int .u8 0, .slice none 0 0]) ?_ 1 _ rfl; (with_reducible repeat (first | refine qN ?_ _ | refine qD ?_ | refine qA ?_ _)); refine blk_put (cs := #[.int .u8 0, .int .u8 0, .slice none 0 0]) ?_ 0 _ rfl; (with_reducible repeat (first | refine qN ?_ _ | refine qD ?_ | refine qA ?_ _)); exact BK336.out⟩
                  have n8_ : Aside0 (Below w.heap.size w (((w43.setCell ⟨gb336, 0, none⟩ (.int .u8 t330)).setCell ⟨gb336, 1, none⟩ (.int .u8 t331)).setCell ⟨gb336, 2, none⟩ (.slice Ao48 t332.length co48))) := ⟨by repeat (first | (with_reducible first | exact HB.out | apply pA | apply pN | apply pD | refine pS ?_ GE313.out | refine pS ?_ GE314.out | refine pS ?_ GE329.out | refine pS ?_ GE336.out) | exact HB.out)⟩
                  (try clear HO318)
                  (try clear HO322)
                  (try clear HO328)
                  (try clear HO334)
                  (try clear BK313)
                  (try clear BK314)
                  (try clear BK329)
                  (try clear BK336)
                  (try clear HB)
                  generalize (((w43.setCell ⟨gb336, 0, none⟩ (.int .u8 t330)).setCell ⟨gb336, 1, none⟩ (.int .u8 t331)).setCell ⟨gb336, 2, none⟩ (.slice Ao48 t332.length co48)) = w49 at n0_ n1_ n2_ n3_ n4_ n5_ n6_ n7_ n8_ ⊢
                  have HO318 := n0_
                  have HO322 := n1_
                  have HO328 := n2_
                  have HO334 := n3_
                  have BK313 := n4_
                  have BK314 := n5_
                  have BK329 := n6_
                  have BK336 := n7_
                  have HB := n8_
                  clear n0_ n1_ n2_ n3_ n4_ n5_ n6_ n7_ n8_
                  have n0_ := Aside0.mk (Kd.R_drew HO318.out)
                  have n1_ := Aside0.mk (Kd.R_drew HO322.out)
                  have n2_ := Aside0.mk (Kd.V_drew HO328.out)
                  have n3_ := Aside0.mk (Kd.V_drew HO334.out)
                  have n4_ := Aside0.mk (qD BK313.out)
                  have n5_ := Aside0.mk (qD BK314.out)
                  have n6_ := Aside0.mk (qD BK329.out)
                  have n7_ := Aside0.mk (qD BK336.out)
                  have n8_ := Aside0.mk (pD HB.out)
                  clear HO318
                  clear HO322
                  clear HO328
                  clear HO334
                  clear BK313
                  clear BK314
                  clear BK329
                  clear BK336
                  clear HB
                  have HO318 := n0_
                  have HO322 := n1_
                  have HO328 := n2_
                  have HO334 := n3_
                  have BK313 := n4_
                  have BK314 := n5_
                  have BK329 := n6_
                  have BK336 := n7_
                  have HB := n8_
                  clear n0_ n1_ n2_ n3_ n4_ n5_ n6_ n7_ n8_
                  obtain ⟨Ao51, co51, eo51⟩ := Kd.R_slice HO318.out
                  (first | subst eo51 | (injection eo51 with f1_ f2_ f3_; have f4_ := f1_.symm; have f5_ := f3_.symm; clear f1_ f2_ f3_; subst f4_; subst f5_))
                  obtain ⟨Ao52, co52, eo52⟩ := Kd.R_slice HO322.out
                  (first | subst eo52 | (injection eo52 with f1_ f2_ f3_; have f4_ := f1_.symm; have f5_ := f3_.symm; clear f1_ f2_ f3_; subst f4_; subst f5_))
                  refine start_ (n := 28) (S := fun w' => w'.cell? ⟨gb313, 0, none⟩ = some (.int .u8 a0_0) ∧ w'.cell? ⟨gb313, 1, none⟩ = some (.int .u8 a0_1) ∧ w'.cell? ⟨gb313, 2, none⟩ = some (.slice A0_2 l0_2.length c0_2) ∧ w'.cell? ⟨gb314, 0, none⟩ = some (.int .u8 a1_0) ∧ w'.cell? ⟨gb314, 1, none⟩ = some (.int .u8 a1_1) ∧ w'.cell? ⟨gb314, 2, none⟩ = some (.slice A1_2 l1_2.length c1_2) ∧ w'.cell? ⟨gb336, 0, none⟩ = some (.int .u8 t330) ∧ w'.cell? ⟨gb336, 1, none⟩ = some (.int .u8 t331) ∧ w'.cell? ⟨gb336, 2, none⟩ = some (.slice Ao48 t332.length co48)) (ds := []) #[false, false, false, false, false, false, false, false, false, false, false, false, false, false, false, false, false, false, false, false, false, false, false, false, false, false, false, false] (by kernel_rfl) rfl rfl ⟨(blk_cell BK313.out 0).trans rfl, (blk_cell BK313.out 1).trans rfl, (blk_cell BK313.out 2).trans rfl, (blk_cell BK314.out 0).trans rfl, (blk_cell BK314.out 1).trans rfl, (blk_cell BK314.out 2).trans rfl, (blk_cell BK336.out 0).trans rfl, (blk_cell BK336.out 1).trans rfl, (blk_cell BK336.out 2).trans rfl⟩ (fun hHeld => ?_); refine with_tabW portreevelaw09_PackApart.tab8 portreevelaw09_PackApart.bits8 (fun HT_ HW_ => ?_)
                  generalize w49.drew = w50 at HO318 HO322 HO328 HO334 BK313 BK314 BK329 BK336 HB hHeld ⊢
                  refine pure_ (i := 0) (N := some 46) (v := ?_) (a' := ?_) #[true, false, false, false, false, false, false, false, false, false, false, false, false, false, false, false, false, false, false, false, false, false, false, false, false, false, false, false] rfl rfl (any_of HT_.out (by kernel_rfl)) (fun _ _ _ h => h) (Or.inl ⟨by rfl, ?_⟩) ?_ ?_
                  rotate_left
                  · intro w'
                    go_simp
                    with_reducible rfl
                  rotate_left
                  · simp only [Act.put, List.setIfInBounds_toArray, List.set_cons_zero, List.set_cons_succ, i64_w, i32_w]
                    rfl
                  refine pure_ (i := 1) (N := some 47) (v := ?_) (a' := ?_) #[true, true, false, false, false, false, false, false, false, false, false, false, false, false, false, false, false, false, false, false, false, false, false, false, false, false, false, false] rfl rfl (any_of HT_.out (by kernel_rfl)) (fun _ _ _ h => h) (Or.inl ⟨by rfl, ?_⟩) ?_ ?_
                  rotate_left
                  · intro w'
                    go_simp
                    with_reducible rfl
                  rotate_left
                  · simp only [Act.put, List.setIfInBounds_toArray, List.set_cons_zero, List.set_cons_succ, i64_w, i32_w]
                    rfl
                  refine pure_ (i := 2) (N := some 48) (v := ?_) (a' := ?_) #[true, true, true, false, false, false, false, false, false, false, false, false, false, false, false, false, false, false, false, false, false, false, false, false, false, false, false, false] rfl rfl (any_of HT_.out (by kernel_rfl)) (fun _ _ _ h => h) (Or.inl ⟨by rfl, ?_⟩) ?_ ?_
                  rotate_left
                  · intro w'
                    go_simp
                    with_reducible rfl
                  rotate_left
                  · simp only [Act.put, List.setIfInBounds_toArray, List.set_cons_zero, List.set_cons_succ, i64_w, i32_w]
                    rfl
                  refine pure_ (i := 3) (N := some 49) (v := ?_) (a' := ?_) #[true, true, true, true, false, false, false, false, false, false, false, false, false, false, false, false, false, false, false, false, false, false, false, false, false, false, false, false] rfl rfl (any_of HT_.out (by kernel_rfl)) (fun _ _ _ h => h) (Or.inl ⟨by rfl, ?_⟩) ?_ ?_
                  rotate_left
                  · intro w'
                    go_simp
                    with_reducible rfl
                  rotate_left
                  · simp only [Act.put, List.setIfInBounds_toArray, List.set_cons_zero, List.set_cons_succ, i64_w, i32_w]
                    rfl
                  refine pure_ (i := 4) (N := some 50) (v := ?_) (a' := ?_) #[true, true, true, true, true, false, false, false, false, false, false, false, false, false, false, false, false, false, false, false, false, false, false, false, false, false, false, false] rfl rfl (any_of HT_.out (by kernel_rfl)) (fun _ _ _ h => h) (Or.inl ⟨by rfl, ?_⟩) ?_ ?_
                  rotate_left
                  · intro w'
                    go_simp
                    with_reducible rfl
                  rotate_left
                  · simp only [Act.put, List.setIfInBounds_toArray, List.set_cons_zero, List.set_cons_succ, i64_w, i32_w]
                    rfl
                  refine pure_ (i := 5) (N := some 51) (v := ?_) (a' := ?_) #[true, true, true, true, true, true, false, false, false, false, false, false, false, false, false, false, false, false, false, false, false, false, false, false, false, false, false, false] rfl rfl (any_of HT_.out (by kernel_rfl)) (fun _ _ _ h => h) (Or.inl ⟨by rfl, ?_⟩) ?_ ?_
                  rotate_left
                  · intro w'
                    go_simp
                    with_reducible rfl
                  rotate_left
                  · simp only [Act.put, List.setIfInBounds_toArray, List.set_cons_zero, List.set_cons_succ, i64_w, i32_w]
                    rfl
                  refine pure_ (i := 6) (N := some 52) (v := ?_) (a' := ?_) #[true, true, true, true, true, true, true, false, false, false, false, false, false, false, false, false, false, false, false, false, false, false, false, false, false, false, false, false] rfl rfl (any_of HT_.out (by kernel_rfl)) (fun _ _ _ h => h) (Or.inl ⟨by rfl, ?_⟩) ?_ ?_
                  rotate_left
                  · intro w'
                    go_simp
                    with_reducible rfl
                  rotate_left
                  · simp only [Act.put, List.setIfInBounds_toArray, List.set_cons_zero, List.set_cons_succ, i64_w, i32_w]
                    rfl
                  refine pure_ (i := 7) (N := some 53) (v := ?_) (a' := ?_) #[true, true, true, true, true, true, true, true, false, false, false, false, false, false, false, false, false, false, false, false, false, false, false, false, false, false, false, false] rfl rfl (any_of HT_.out (by kernel_rfl)) (fun _ _ _ h => h) (Or.inl ⟨by rfl, ?_⟩) ?_ ?_
                  rotate_left
                  · intro w'
                    go_simp
                    with_reducible rfl
                  rotate_left
                  · simp only [Act.put, List.setIfInBounds_toArray, List.set_cons_zero, List.set_cons_succ, i64_w, i32_w]
                    rfl
                  refine pure_ (i := 8) (N := some 54) (v := ?_) (a' := ?_) #[true, true, true, true, true, true, true, true, true, false, false, false, false, false, false, false, false, false, false, false, false, false, false, false, false, false, false, false] rfl rfl (any_of HT_.out (by kernel_rfl)) (fun _ _ _ h => h) (Or.inl ⟨by rfl, ?_⟩) ?_ ?_
                  rotate_left
                  · intro w'
                    go_simp
                    with_reducible rfl
                  rotate_left
                  · simp only [Act.put, List.setIfInBounds_toArray, List.set_cons_zero, List.set_cons_succ, i64_w, i32_w]
                    rfl
                  refine pure_ (i := 9) (N := some 55) (v := ?_) (a' := ?_) #[true, true, true, true, true, true, true, true, true, true, false, false, false, false, false, false, false, false, false, false, false, false, false, false, false, false, false, false] rfl rfl (any_of HT_.out (by kernel_rfl)) (fun _ _ _ h => h) (Or.inl ⟨by rfl, ?_⟩) ?_ ?_
                  rotate_left
                  · intro w'
                    go_simp
                    with_reducible rfl
                  rotate_left
                  · simp only [Act.put, List.setIfInBounds_toArray, List.set_cons_zero, List.set_cons_succ, i64_w, i32_w]
                    rfl
                  refine pure_ (i := 10) (N := some 56) (v := ?_) (a' := ?_) #[true, true, true, true, true, true, true, true, true, true, true, false, false, false, false, false, false, false, false, false, false, false, false, false, false, false, false, false] rfl rfl (any_of HT_.out (by kernel_rfl)) (fun _ _ _ h => h) (Or.inl ⟨by rfl, ?_⟩) ?_ ?_
                  rotate_left
                  · intro w'
                    go_simp
                    with_reducible rfl
                  rotate_left
                  · simp only [Act.put, List.setIfInBounds_toArray, List.set_cons_zero, List.set_cons_succ, i64_w, i32_w]
                    rfl
                  refine pure_ (i := 11) (N := some 57) (v := ?_) (a' := ?_) #[true, true, true, true, true, true, true, true, true, true, true, true, false, false, false, false, false, false, false, false, false, false, false, false, false, false, false, false] rfl rfl (any_of HT_.out (by kernel_rfl)) (fun _ _ _ h => h) (Or.inl ⟨by rfl, ?_⟩) ?_ ?_
                  rotate_left
                  · intro w'
                    go_simp
                    with_reducible rfl
                  rotate_left
                  · simp only [Act.put, List.setIfInBounds_toArray, List.set_cons_zero, List.set_cons_succ, i64_w, i32_w]
                    rfl
                  refine take_ (i := 13) (N := some 59) (v := ?_) (a' := ?_) #[true, true, true, true, true, true, true, true, true, true, true, true, false, true, false, false, false, false, false, false, false, false, false, false, false, false, false, false] rfl rfl (take_ofW HT_.out HW_.out (by kernel_rfl)) (fun _ _ _ h => h) (Or.inl ⟨by rfl, ?_⟩) hHeld ?_ ?_
                  rotate_left
                  · rintro w' ⟨s0, s1, s2, s3, s4, s5, s6, s7, s8⟩
                    go_simp
                    with_reducible rfl
                  rotate_left
                  · simp only [Act.put, List.setIfInBounds_toArray, List.set_cons_zero, List.set_cons_succ, i64_w, i32_w]
                    rfl
                  refine take_ (i := 14) (N := some 60) (v := ?_) (a' := ?_) #[true, true, true, true, true, true, true, true, true, true, true, true, false, true, true, false, false, false, false, false, false, false, false, false, false, false, false, false] rfl rfl (take_ofW HT_.out HW_.out (by kernel_rfl)) (fun _ _ _ h => h) (Or.inl ⟨by rfl, ?_⟩) hHeld ?_ ?_
                  rotate_left
                  · rintro w' ⟨s0, s1, s2, s3, s4, s5, s6, s7, s8⟩
                    go_simp
                    with_reducible rfl
                  rotate_left
                  · simp only [Act.put, List.setIfInBounds_toArray, List.set_cons_zero, List.set_cons_succ, i64_w, i32_w]
                    rfl
                  refine one_ (i := 12) (N := some 58) #[true, true, true, true, true, true, true, true, true, true, true, true, true, true, true, false, false, false, false, false, false, false, false, false, false, false, false, false] rfl rfl (one_of HT_.out (by kernel_rfl)) (by decide) (fun K hK => ?_)
                  refine goes_ Try.func13 (by kernel_rfl) rfl #[.slice Ao51 t316.length co51, .slice Ao52 t320.length co52] (by rfl) rfl rfl (by (try simp only [List.map_toArray, List.map_cons, List.map_nil]); first | done | rfl | (simp only [List.length_drop, List.length_take]; rfl)) ?_
                  with_reducible refine (portreeveref01_Row.calls kj4 _ _ t316 _ _ t320 t337 _ ?side1 ?side2 ?side3 ?side4 A23.out).mono ?_
                  (case side1 => repeat (first | exact (Kd.R_reads' HO318.out).2.2 | (with_reducible refine Kd.C_alloc ?_ _) | (with_reducible refine Kd.C_drewN ?_ _) | (with_reducible refine Kd.C_drew ?_)))
                  (case side2 => exact (Kd.R_reads' HO318.out).2.1)
                  (case side3 => repeat (first | exact (Kd.R_reads' HO322.out).2.2 | (with_reducible refine Kd.C_alloc ?_ _) | (with_reducible refine Kd.C_drewN ?_ _) | (with_reducible refine Kd.C_drew ?_)))
                  (case side4 => exact (Kd.R_reads' HO322.out).2.1)
                  rintro e w' ⟨rfl, ⟨nd, rfl⟩⟩
                  refine ⟨_, rfl, ?_⟩
                  refine hK.out _ _ ⟨(blk_cell BK313.out 0).trans rfl, (blk_cell BK313.out 1).trans rfl, (blk_cell BK313.out 2).trans rfl, (blk_cell BK314.out 0).trans rfl, (blk_cell BK314.out 1).trans rfl, (blk_cell BK314.out 2).trans rfl, (blk_cell BK336.out 0).trans rfl, (blk_cell BK336.out 1).trans rfl, (blk_cell BK336.out 2).trans rfl⟩ (fun hHeld => ?_)
                  clear hK K
                  refine norm_ (a' := ?_) ?_ ?_
                  rotate_left
                  · show Act.put _ (some 58) _ = _
                    simp only [Act.put, List.setIfInBounds_toArray, List.set_cons_zero, List.set_cons_succ, i64_w, i32_w]
                    rfl
                  refine one_ (i := 15) (N := some 61) #[true, true, true, true, true, true, true, true, true, true, true, true, true, true, true, true, false, false, false, false, false, false, false, false, false, false, false, false] rfl rfl (one_of HT_.out (by kernel_rfl)) (by decide) (fun K hK => ?_)
                  refine goes_ Try.func14 (by kernel_rfl) rfl #[.agg #[.int .u8 a0_0, .int .u8 a0_1, .slice A0_2 l0_2.length c0_2], .agg #[.int .u8 a1_0, .int .u8 a1_1, .slice A1_2 l1_2.length c1_2]] (by rfl) rfl rfl (by (try simp only [List.map_toArray, List.map_cons, List.map_nil]); first | done | rfl | (simp only [List.length_drop, List.length_take]; rfl)) ?_
                  with_reducible refine (portreeveref09_Same.calls kj4 a0_0 a0_1 _ _ l0_2 a1_0 a1_1 _ _ l1_2 t338 _ ?side1 ?side2 ?side3 ?side4 A24.out).mono ?_
                  (case side1 => repeat (first | exact (Kd.C_below HR0_2.out (by repeat (first | (with_reducible first | exact HB.out | apply pA | apply pN | apply pD | refine pS ?_ GE313.out | refine pS ?_ GE314.out | refine pS ?_ GE329.out | refine pS ?_ GE336.out) | exact HB.out))) | (with_reducible refine Kd.C_alloc ?_ _) | (with_reducible refine Kd.C_drewN ?_ _) | (with_reducible refine Kd.C_drew ?_)))
                  (case side2 => exact HC0_2.out)
                  (case side3 => repeat (first | exact (Kd.C_below HR1_2.out (by repeat (first | (with_reducible first | exact HB.out | apply pA | apply pN | apply pD | refine pS ?_ GE313.out | refine pS ?_ GE314.out | refine pS ?_ GE329.out | refine pS ?_ GE336.out) | exact HB.out))) | (with_reducible refine Kd.C_alloc ?_ _) | (with_reducible refine Kd.C_drewN ?_ _) | (with_reducible refine Kd.C_drew ?_)))
                  (case side4 => exact HC1_2.out)
                  rintro e w53 ⟨rfl, hb⟩
                  refine ⟨_, rfl, ?_⟩
                  have n0_ := Aside0.mk (Kd.R_below (by (with_reducible repeat (first | apply Kd.R_alloc | apply Kd.R_drewN | apply Kd.R_drew)); exact HO318.out) hb)
                  have n1_ := Aside0.mk (Kd.R_below (by (with_reducible repeat (first | apply Kd.R_alloc | apply Kd.R_drewN | apply Kd.R_drew)); exact HO322.out) hb)
                  have n2_ := Aside0.mk (Kd.V_below (by (with_reducible repeat (first | apply Kd.V_alloc | apply Kd.V_drewN | apply Kd.V_drew)); exact HO328.out) hb)
                  have n3_ := Aside0.mk (Kd.V_below (by (with_reducible repeat (first | apply Kd.V_alloc | apply Kd.V_drewN | apply Kd.V_drew)); exact HO334.out) hb)
                  have n4_ := Aside0.mk (blk_below (g := gb313) (o := .cells #[.int .u8 a0_0, .int .u8 a0_1, .slice A0_2 l0_2.length c0_2] 24 (0, 0)) (by (with_reducible repeat (first | refine qN ?_ _ | refine qD ?_ | refine qA ?_ _)); exact BK313.out) hb)
                  have n5_ := Aside0.mk (blk_below (g := gb314) (o := .cells #[.int .u8 a1_0, .int .u8 a1_1, .slice A1_2 l1_2.length c1_2] 24 (0, 0)) (by (with_reducible repeat (first | refine qN ?_ _ | refine qD ?_ | refine qA ?_ _)); exact BK314.out) hb)
                  have n6_ := Aside0.mk (blk_below (g := gb329) (o := .cells #[.int .u8 t324, .int .u8 t325, .slice Ao39 t326.length co39] 24 (0, 0)) (by (with_reducible repeat (first | refine qN ?_ _ | refine qD ?_ | refine qA ?_ _)); exact BK329.out) hb)
                  have n7_ := Aside0.mk (blk_below (g := gb336) (o := .cells #[.int .u8 t330, .int .u8 t331, .slice Ao48 t332.length co48] 24 (0, 0)) (by (with_reducible repeat (first | refine qN ?_ _ | refine qD ?_ | refine qA ?_ _)); exact BK336.out) hb)
                  have n8_ := Aside0.mk (below_step (by repeat (first | (with_reducible first | exact HB.out | apply pA | apply pN | apply pD | refine pS ?_ GE313.out | refine pS ?_ GE314.out | refine pS ?_ GE329.out | refine pS ?_ GE336.out) | exact HB.out)) hb)
                  clear HO318
                  clear HO322
                  clear HO328
                  clear HO334
                  clear BK313
                  clear BK314
                  clear BK329
                  clear BK336
                  clear HB
                  have HO318 := n0_
                  have HO322 := n1_
                  have HO328 := n2_
                  have HO334 := n3_
                  have BK313 := n4_
                  have BK314 := n5_
                  have BK329 := n6_
                  have BK336 := n7_
                  have HB := n8_
                  clear n0_ n1_ n2_ n3_ n4_ n5_ n6_ n7_ n8_
                  (try clear hb)
                  (try clear hb2)
                  (try clear hk)
                  (try clear hi)
                  refine hK.out _ _ ⟨(blk_cell BK313.out 0).trans rfl, (blk_cell BK313.out 1).trans rfl, (blk_cell BK313.out 2).trans rfl, (blk_cell BK314.out 0).trans rfl, (blk_cell BK314.out 1).trans rfl, (blk_cell BK314.out 2).trans rfl, (blk_cell BK336.out 0).trans rfl, (blk_cell BK336.out 1).trans rfl, (blk_cell BK336.out 2).trans rfl⟩ (fun hHeld => ?_)
                  clear hK K
                  refine norm_ (a' := ?_) ?_ ?_
                  rotate_left
                  · show Act.put _ (some 61) _ = _
                    simp only [Act.put, List.setIfInBounds_toArray, List.set_cons_zero, List.set_cons_succ, i64_w, i32_w]
                    rfl
                  refine pure_ (i := 16) (N := some 62) (v := ?_) (a' := ?_) #[true, true, true, true, true, true, true, true, true, true, true, true, true, true, true, true, true, false, false, false, false, false, false, false, false, false, false, false] rfl rfl (any_of HT_.out (by kernel_rfl)) (fun _ _ _ h => h) (Or.inl ⟨by rfl, ?_⟩) ?_ ?_
                  rotate_left
                  · intro w'
                    go_simp
                    with_reducible rfl
                  rotate_left
                  · simp only [Act.put, List.setIfInBounds_toArray, List.set_cons_zero, List.set_cons_succ, i64_w, i32_w]
                    rfl
                  refine pure_ (i := 17) (N := some 63) (v := ?_) (a' := ?_) #[true, true, true, true, true, true, true, true, true, true, true, true, true, true, true, true, true, true, false, false, false, false, false, false, false, false, false, false] rfl rfl (any_of HT_.out (by kernel_rfl)) (fun _ _ _ h => h) (Or.inl ⟨by rfl, ?_⟩) ?_ ?_
                  rotate_left
                  · intro w'
                    go_simp
                    with_reducible rfl
                  rotate_left
                  · simp only [Act.put, List.setIfInBounds_toArray, List.set_cons_zero, List.set_cons_succ, i64_w, i32_w]
                    rfl
                  refine pure_ (i := 18) (N := some 64) (v := ?_) (a' := ?_) #[true, true, true, true, true, true, true, true, true, true, true, true, true, true, true, true, true, true, true, false, false, false, false, false, false, false, false, false] rfl rfl (any_of HT_.out (by kernel_rfl)) (fun _ _ _ h => h) (Or.inl ⟨by rfl, ?_⟩) ?_ ?_
                  rotate_left
                  · intro w'
                    go_simp
                    with_reducible rfl
                  rotate_left
                  · simp only [Act.put, List.setIfInBounds_toArray, List.set_cons_zero, List.set_cons_succ, i64_w, i32_w]
                    rfl
                  refine pure_ (i := 19) (N := some 65) (v := ?_) (a' := ?_) #[true, true, true, true, true, true, true, true, true, true, true, true, true, true, true, true, true, true, true, true, false, false, false, false, false, false, false, false] rfl rfl (any_of HT_.out (by kernel_rfl)) (fun _ _ _ h => h) (Or.inl ⟨by rfl, ?_⟩) ?_ ?_
                  rotate_left
                  · intro w'
                    go_simp
                    with_reducible rfl
                  rotate_left
                  · simp only [Act.put, List.setIfInBounds_toArray, List.set_cons_zero, List.set_cons_succ, i64_w, i32_w]
                    rfl
                  refine pure_ (i := 20) (N := some 66) (v := ?_) (a' := ?_) #[true, true, true, true, true, true, true, true, true, true, true, true, true, true, true, true, true, true, true, true, true, false, false, false, false, false, false, false] rfl rfl (any_of HT_.out (by kernel_rfl)) (fun _ _ _ h => h) (Or.inl ⟨by rfl, ?_⟩) ?_ ?_
                  rotate_left
                  · intro w'
                    go_simp
                    with_reducible rfl
                  rotate_left
                  · simp only [Act.put, List.setIfInBounds_toArray, List.set_cons_zero, List.set_cons_succ, i64_w, i32_w]
                    rfl
                  refine pure_ (i := 21) (N := some 67) (v := ?_) (a' := ?_) #[true, true, true, true, true, true, true, true, true, true, true, true, true, true, true, true, true, true, true, true, true, true, false, false, false, false, false, false] rfl rfl (any_of HT_.out (by kernel_rfl)) (fun _ _ _ h => h) (Or.inl ⟨by rfl, ?_⟩) ?_ ?_
                  rotate_left
                  · intro w'
                    go_simp
                    with_reducible rfl
                  rotate_left
                  · simp only [Act.put, List.setIfInBounds_toArray, List.set_cons_zero, List.set_cons_succ, i64_w, i32_w]
                    rfl
                  refine pure_ (i := 22) (N := some 68) (v := ?_) (a' := ?_) #[true, true, true, true, true, true, true, true, true, true, true, true, true, true, true, true, true, true, true, true, true, true, true, false, false, false, false, false] rfl rfl (any_of HT_.out (by kernel_rfl)) (fun _ _ _ h => h) (Or.inl ⟨by rfl, ?_⟩) ?_ ?_
                  rotate_left
                  · intro w'
                    go_simp
                    with_reducible rfl
                  rotate_left
                  · simp only [Act.put, List.setIfInBounds_toArray, List.set_cons_zero, List.set_cons_succ, i64_w, i32_w]
                    rfl
                  refine take_ (i := 23) (N := some 69) (v := ?_) (a' := ?_) #[true, true, true, true, true, true, true, true, true, true, true, true, true, true, true, true, true, true, true, true, true, true, true, true, false, false, false, false] rfl rfl (take_ofW HT_.out HW_.out (by kernel_rfl)) (fun _ _ _ h => h) (Or.inl ⟨by rfl, ?_⟩) hHeld ?_ ?_
                  rotate_left
                  · rintro w' ⟨s0, s1, s2, s3, s4, s5, s6, s7, s8⟩
                    go_simp
                    with_reducible rfl
                  rotate_left
                  · simp only [Act.put, List.setIfInBounds_toArray, List.set_cons_zero, List.set_cons_succ, i64_w, i32_w]
                    rfl
                  refine take_ (i := 24) (N := some 70) (v := ?_) (a' := ?_) #[true, true, true, true, true, true, true, true, true, true, true, true, true, true, true, true, true, true, true, true, true, true, true, true, true, false, false, false] rfl rfl (take_ofW HT_.out HW_.out (by kernel_rfl)) (fun _ _ _ h => h) (Or.inl ⟨by rfl, ?_⟩) hHeld ?_ ?_
                  rotate_left
                  · rintro w' ⟨s0, s1, s2, s3, s4, s5, s6, s7, s8⟩
                    go_simp
                    with_reducible rfl
                  rotate_left
                  · simp only [Act.put, List.setIfInBounds_toArray, List.set_cons_zero, List.set_cons_succ, i64_w, i32_w]
                    rfl
                  refine one_ (i := 25) (N := some 71) #[true, true, true, true, true, true, true, true, true, true, true, true, true, true, true, true, true, true, true, true, true, true, true, true, true, true, false, false] rfl rfl (one_of HT_.out (by kernel_rfl)) (by decide) (fun K hK => ?_)
                  refine goes_ Try.func14 (by kernel_rfl) rfl #[.agg #[.int .u8 t330, .int .u8 t331, .slice Ao48 t332.length co48], .agg #[.int .u8 a0_0, .int .u8 a0_1, .slice A0_2 l0_2.length c0_2]] (by rfl) rfl rfl (by (try simp only [List.map_toArray, List.map_cons, List.map_nil]); first | done | rfl | (simp only [List.length_drop, List.length_take]; rfl)) ?_
                  with_reducible refine (portreeveref09_Same.calls kj4 t330 t331 _ _ t332 a0_0 a0_1 _ _ l0_2 t339 _ ?side1 ?side2 ?side3 ?side4 A27.out).mono ?_
                  (case side1 => repeat (first | exact (Kd.V_reads' HO334.out).2.2 | (with_reducible refine Kd.C_alloc ?_ _) | (with_reducible refine Kd.C_drewN ?_ _) | (with_reducible refine Kd.C_drew ?_)))
                  (case side2 => exact (Kd.V_reads' HO334.out).2.1)
                  (case side3 => repeat (first | exact (Kd.C_below HR0_2.out HB.out) | (with_reducible refine Kd.C_alloc ?_ _) | (with_reducible refine Kd.C_drewN ?_ _) | (with_reducible refine Kd.C_drew ?_)))
                  (case side4 => exact HC0_2.out)
                  rintro e w54 ⟨rfl, hb⟩
                  refine ⟨_, rfl, ?_⟩
                  have n0_ := Aside0.mk (Kd.R_below (by (with_reducible repeat (first | apply Kd.R_alloc | apply Kd.R_drewN | apply Kd.R_drew)); exact HO318.out) hb)
                  have n1_ := Aside0.mk (Kd.R_below (by (with_reducible repeat (first | apply Kd.R_alloc | apply Kd.R_drewN | apply Kd.R_drew)); exact HO322.out) hb)
                  have n2_ := Aside0.mk (Kd.V_below (by (with_reducible repeat (first | apply Kd.V_alloc | apply Kd.V_drewN | apply Kd.V_drew)); exact HO328.out) hb)
                  have n3_ := Aside0.mk (Kd.V_below (by (with_reducible repeat (first | apply Kd.V_alloc | apply Kd.V_drewN | apply Kd.V_drew)); exact HO334.out) hb)
                  have n4_ := Aside0.mk (blk_below (g := gb313) (o := .cells #[.int .u8 a0_0, .int .u8 a0_1, .slice A0_2 l0_2.length c0_2] 24 (0, 0)) (by (with_reducible repeat (first | refine qN ?_ _ | refine qD ?_ | refine qA ?_ _)); exact BK313.out) hb)
                  have n5_ := Aside0.mk (blk_below (g := gb314) (o := .cells #[.int .u8 a1_0, .int .u8 a1_1, .slice A1_2 l1_2.length c1_2] 24 (0, 0)) (by (with_reducible repeat (first | refine qN ?_ _ | refine qD ?_ | refine qA ?_ _)); exact BK314.out) hb)
                  have n6_ := Aside0.mk (blk_below (g := gb329) (o := .cells #[.int .u8 t324, .int .u8 t325, .slice Ao39 t326.length co39] 24 (0, 0)) (by (with_reducible repeat (first | refine qN ?_ _ | refine qD ?_ | refine qA ?_ _)); exact BK329.out) hb)
                  have n7_ := Aside0.mk (blk_below (g := gb336) (o := .cells #[.int .u8 t330, .int .u8 t331, .slice Ao48 t332.length co48] 24 (0, 0)) (by (with_reducible repeat (first | refine qN ?_ _ | refine qD ?_ | refine qA ?_ _)); exact BK336.out) hb)
                  have n8_ := Aside0.mk (below_step (by repeat (first | (with_reducible first | exact HB.out | apply pA | apply pN | apply pD | refine pS ?_ GE313.out | refine pS ?_ GE314.out | refine pS ?_ GE329.out | refine pS ?_ GE336.out) | exact HB.out)) hb)
                  clear HO318
                  clear HO322
                  clear HO328
                  clear HO334
                  clear BK313
                  clear BK314
                  clear BK329
                  clear BK336
                  clear HB
                  have HO318 := n0_
                  have HO322 := n1_
                  have HO328 := n2_
                  have HO334 := n3_
                  have BK313 := n4_
                  have BK314 := n5_
                  have BK329 := n6_
                  have BK336 := n7_
                  have HB := n8_
                  clear n0_ n1_ n2_ n3_ n4_ n5_ n6_ n7_ n8_
                  (try clear hb)
                  (try clear hb2)
                  (try clear hk)
                  (try clear hi)
                  refine hK.out _ _ ⟨(blk_cell BK313.out 0).trans rfl, (blk_cell BK313.out 1).trans rfl, (blk_cell BK313.out 2).trans rfl, (blk_cell BK314.out 0).trans rfl, (blk_cell BK314.out 1).trans rfl, (blk_cell BK314.out 2).trans rfl, (blk_cell BK336.out 0).trans rfl, (blk_cell BK336.out 1).trans rfl, (blk_cell BK336.out 2).trans rfl⟩ (fun hHeld => ?_)
                  clear hK K
                  refine norm_ (a' := ?_) ?_ ?_
                  rotate_left
                  · show Act.put _ (some 71) _ = _
                    simp only [Act.put, List.setIfInBounds_toArray, List.set_cons_zero, List.set_cons_succ, i64_w, i32_w]
                    rfl
                  refine pure_ (i := 26) (N := some 72) (v := ?_) (a' := ?_) #[true, true, true, true, true, true, true, true, true, true, true, true, true, true, true, true, true, true, true, true, true, true, true, true, true, true, true, false] rfl rfl (any_of HT_.out (by kernel_rfl)) (fun _ _ _ h => h) (Or.inl ⟨by rfl, ?_⟩) ?_ ?_
                  rotate_left
                  · intro w'
                    go_simp
                    with_reducible rfl
                  rotate_left
                  · simp only [Act.put, List.setIfInBounds_toArray, List.set_cons_zero, List.set_cons_succ, i64_w, i32_w]
                    rfl
                  refine pure_ (i := 27) (N := some 6) (v := ?_) (a' := ?_) #[true, true, true, true, true, true, true, true, true, true, true, true, true, true, true, true, true, true, true, true, true, true, true, true, true, true, true, true] rfl rfl (any_of HT_.out (by kernel_rfl)) (fun _ _ _ h => h) (Or.inl ⟨by rfl, ?_⟩) ?_ ?_
                  rotate_left
                  · intro w'
                    go_simp
                    with_reducible rfl
                  rotate_left
                  · simp only [Act.put, List.setIfInBounds_toArray, List.set_cons_zero, List.set_cons_succ, i64_w, i32_w]
                    rfl
                  refine done_ (done_of HT_.out (by kernel_rfl)) ?_
                  try go_wp2
                  go_ret
                  exact ⟨by first | rfl | (simp [errW_none, errW_some] <;> rfl) | (simp [*, errW_none, errW_some] <;> rfl), by repeat (first | (with_reducible first | exact HB.out | apply pA | apply pN | apply pD | refine pS ?_ GE313.out | refine pS ?_ GE314.out | refine pS ?_ GE329.out | refine pS ?_ GE336.out) | exact HB.out)⟩
                · rw [if_neg c26] at H
                  have c26b0 : (t335 == 0) = false := beq_eq_false_iff_ne.mpr c26
                  have c26b1 : (t335 != 0) = true := bne_iff_ne.mpr c26
                  exact absurd ((Option.some.inj H).trans hlaw_.out) (by decide)
              · rw [if_neg c25] at H
                have c25b0 : (t337 == t338) = false := by simpa using c25
                (try (have c25b1 : decide (t337 = t338) = false := by simpa using c25))
                (try (have c25b2 : (t337 == t338) = false := by simpa using c25))
                (try (have c25b3 : ¬ (t337 = t338) := by simpa using c25))
                clear c25
                exact absurd ((Option.some.inj H).trans hlaw_.out) (by decide)
            · rw [if_neg c22] at H
              have c22b0 : (t323 == 0) = false := beq_eq_false_iff_ne.mpr c22
              have c22b1 : (t323 != 0) = true := bne_iff_ne.mpr c22
              exact absurd ((Option.some.inj H).trans hlaw_.out) (by decide)
          · rw [if_neg c21] at H
            have c21b0 : (t319 == 0) = false := beq_eq_false_iff_ne.mpr c21
            have c21b1 : (t319 != 0) = true := bne_iff_ne.mpr c21
            exact absurd ((Option.some.inj H).trans hlaw_.out) (by decide)
        · replace c20 := Bool.eq_false_iff.mpr c20
          subst c20
          have H1 : (some false) = some r := by rw [if_neg (show ¬ (false = true) by decide)] at H; exact H
          clear H
          have H := H1
          clear H1
          exact absurd ((Option.some.inj H).trans hlaw_.out) (by decide)

end Go.Proofs.Ytgijfaecplodfaa.Q

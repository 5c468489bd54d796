-- written by this session's own program (wip/tools/myprint.py), over the kit's print
import Derived.Test.YtfnmlhcpolfjaaaQx0
import Derived.Test.YtfnmlhcpolfjaaaQx1
import Derived.Test.YtfnmlhcpolfjaaaQx5
import Derived.Test.YtfnmlhcpolfjaaaQx6
import Derived.Test.YtfnmlhcpolfjaaaQx7
namespace Go.Proofs.Ytfnmlhcpolfjaaa.Q
open Go.RowKit Go.Proofs.YtfnmlhcpolfjaaaW.PrintWords Go.Proofs.YtfnmlhcpolfjaaaW.PrintLast Go.Proofs.YtfnmlhcpolfjaaaW.PrintMore
open Go.Proofs.YtfnmlhcpolfjaaaV
attribute [local go_sem] max2_int min2_int max_two min_two max_three min_three max_four min_four   -- for this text's walks alone
set_option linter.unusedVariables false
set_option linter.unusedSimpArgs false

attribute [local go_sem high] eqA41
/-! ### portreevelaw01_FcsApart: function 7 -/
def portreevelaw01_FcsApart.j0 : Nat → List Int → Int → Bool → Bool → Int → Int → Option (Bool)
  | 0, _, _, _, _, _, _ => none
  | k + 1, x0, x1, x7, x30, x217000, x217001 => if x30 = true then (some x7) else ((some (([] : List Int) : List Int)).bind fun y218 => (if y218.length + x0.length < 140737488355328 then ((some (y218 ++ x0 : List Int)).bind fun y221 => (if 0 ≤ x1 then (if x1 < (y221.length : Int) then ((some (y221.set (x1 : Int).toNat (Go.bits .xor .u8 (rd y221 x1) x217000) : List Int)).bind fun y225 => (if 0 ≤ (wrap64 (x1 + 1)) then (if (wrap64 (x1 + 1)) < (y221.length : Int) then ((fcs_Put.f k x0).bind fun t228 => ((fcs_Put.f k (y225.set ((wrap64 (x1 + 1)) : Int).toNat (Go.bits .xor .u8 (rd y225 (wrap64 (x1 + 1))) x217001))).bind fun t231 => (if x7 = true then (if (t228.length : Int) = (t231.length : Int) then (if 0 ≤ (x0.length : Int) then (if (x0.length : Int) ≤ (t228.length : Int) then (if (x0.length : Int) ≤ (t231.length : Int) then ((portreeveref01_Row.f k (t228.drop ((x0.length : Int) : Int).toNat) (t231.drop ((x0.length : Int) : Int).toNat)).bind fun t242 => (some (!t242))) else (none)) else (none)) else (none)) else (some false)) else (some false)))) else (none)) else (none))) else (none)) else (none))) else (none)))
def portreevelaw01_FcsApart.f (k : Nat) (l0 : List Int) (a1 : Int) (a2_0 : Int) (a2_1 : Int) : Option (Bool) := (portreevelaw01_shown.f k).bind fun t217 => (if (l0.length : Int) > 1000 then (portreevelaw01_FcsApart.j0 k l0 a1 t217 true a2_0 a2_1) else (if a1 < 0 then (portreevelaw01_FcsApart.j0 k l0 a1 t217 true a2_0 a2_1) else (if a1 > (wrap64 ((l0.length : Int) - 2)) then (portreevelaw01_FcsApart.j0 k l0 a1 t217 true a2_0 a2_1) else (portreevelaw01_FcsApart.j0 k l0 a1 t217 (a2_0 == 0 && (a2_1 == 0)) a2_0 a2_1))))
theorem portreevelaw01_FcsApart.mono_l : ∀ k, (∀ y0 y1 y2 y3 y4 y5, LeO (portreevelaw01_FcsApart.j0 k y0 y1 y2 y3 y4 y5) (portreevelaw01_FcsApart.j0 (k + 1) y0 y1 y2 y3 y4 y5))
  | 0 => fun _ _ _ _ _ _ r h => by simp [portreevelaw01_FcsApart.j0] at h
  | k + 1 => by
    have ih0 := portreevelaw01_FcsApart.mono_l k
    · intro y0 y1 y2 y3 y4 y5
      unfold portreevelaw01_FcsApart.j0
      repeat' first
      | (with_reducible exact ih0 _ _ _ _ _ _)
      | (with_reducible exact fcs_Put.mono _ _)
      | (with_reducible exact portreevelaw01_shown.mono _)
      | (with_reducible exact portreeveref01_Row.mono _ _ _)
      | (with_reducible exact LeO.refl _)
      | (with_reducible exact LeO.none _)
      | (with_reducible refine LeO.ite ?_ ?_)
      | (with_reducible refine LeO.bind ?_ (fun _ => ?_))
      | exact ih0 _ _ _ _ _ _
      | exact fcs_Put.mono _ _
      | exact portreevelaw01_shown.mono _
      | exact portreeveref01_Row.mono _ _ _
      | exact LeO.none _
      | refine LeO.ite ?_ ?_
      | refine LeO.bind ?_ (fun _ => ?_)
theorem portreevelaw01_FcsApart.mono : ∀ a0 a1 a2 a3 k, LeO (portreevelaw01_FcsApart.f k a0 a1 a2 a3) (portreevelaw01_FcsApart.f (k + 1) a0 a1 a2 a3) := by
  intro a0 a1 a2 a3 k
  have ih0 := portreevelaw01_FcsApart.mono_l k
  unfold portreevelaw01_FcsApart.f
  repeat' first
      | (with_reducible exact ih0 _ _ _ _ _ _)
      | (with_reducible exact fcs_Put.mono _ _)
      | (with_reducible exact portreevelaw01_shown.mono _)
      | (with_reducible exact portreeveref01_Row.mono _ _ _)
      | (with_reducible exact LeO.refl _)
      | (with_reducible exact LeO.none _)
      | (with_reducible refine LeO.ite ?_ ?_)
      | (with_reducible refine LeO.bind ?_ (fun _ => ?_))
      | exact ih0 _ _ _ _ _ _
      | exact fcs_Put.mono _ _
      | exact portreevelaw01_shown.mono _
      | exact portreeveref01_Row.mono _ _ _
      | exact LeO.none _
      | refine LeO.ite ?_ ?_
      | refine LeO.bind ?_ (fun _ => ?_)
def portreevelaw01_FcsApart.T5 : Bool × List (List Nat × List Nat) := (true, [([], []), ([], []), ([], []), ([], []), ([2, 3], [2, 3]), ([4], [4]), ([], []), ([6], [6]), ([5, 7], [5, 7]), ([0, 1, 0, 1, 2, 3, 4, 5, 6, 7, 8], [0, 1]), ([9, 8, 0, 1, 2, 3, 4, 5, 6, 7, 8], [8, 9])])
def portreevelaw01_FcsApart.B5 : List Nat := [0, 0, 0, 0, 12, 28, 0, 64, 252, 511, 1023]
theorem portreevelaw01_FcsApart.tab5 : rtab .any (opsOf Try.f7 5) = portreevelaw01_FcsApart.T5 := by kernel_rfl
theorem portreevelaw01_FcsApart.bits5 : waitsOk portreevelaw01_FcsApart.T5.2 portreevelaw01_FcsApart.B5 = true := by kernel_rfl
def portreevelaw01_FcsApart.T6 : Bool × List (List Nat × List Nat) := (true, [([], []), ([], []), ([1], [1]), ([], []), ([], []), ([4], [4]), ([3, 5], [3, 5]), ([6], [6]), ([], []), ([8], [8]), ([7, 9], [7, 9]), ([0, 2, 0, 1, 2, 3, 4, 5, 6, 7, 8, 9, 10], [0, 2]), ([11, 10, 0, 1, 2, 3, 4, 5, 6, 7, 8, 9, 10], [10, 11])])
def portreevelaw01_FcsApart.B6 : List Nat := [0, 0, 2, 0, 0, 16, 56, 120, 0, 256, 1016, 2047, 4095]
theorem portreevelaw01_FcsApart.tab6 : rtab .any (opsOf Try.f7 6) = portreevelaw01_FcsApart.T6 := by kernel_rfl
theorem portreevelaw01_FcsApart.bits6 : waitsOk portreevelaw01_FcsApart.T6.2 portreevelaw01_FcsApart.B6 = true := by kernel_rfl
def portreevelaw01_FcsApart.T9 : Bool × List (List Nat × List Nat) := (true, [([], []), ([0], [0]), ([1], [1]), ([2, 1], [1, 2]), ([1], [1]), ([4, 1], [1, 4]), ([3, 5, 1], [1, 3, 5]), ([1, 6], [1, 6]), ([7, 1], [7]), ([8], [8]), ([8], [8]), ([10, 8], [8, 10]), ([9, 11, 8], [8, 9, 11]), ([8], [8]), ([8], [8]), ([14, 8], [8, 14]), ([13, 15, 8], [8, 13, 15]), ([12, 16, 8, 8], [8, 12, 16]), ([17, 8], [8, 17]), ([8, 18], [8, 18]), ([19, 17, 0, 1, 2, 3, 4, 5, 6, 7, 8, 9, 10, 11, 12, 13, 14, 15, 16, 17, 18, 19], [19])])
def portreevelaw01_FcsApart.B9 : List Nat := [0, 1, 3, 7, 3, 19, 63, 127, 255, 511, 511, 1535, 4095, 511, 511, 16895, 57855, 131071, 262143, 524287, 1048575]
theorem portreevelaw01_FcsApart.tab9 : rtab .any (opsOf Try.f7 9) = portreevelaw01_FcsApart.T9 := by kernel_rfl
theorem portreevelaw01_FcsApart.bits9 : waitsOk portreevelaw01_FcsApart.T9.2 portreevelaw01_FcsApart.B9 = true := by kernel_rfl
set_option maxHeartbeats 8000000 in
set_option maxRecDepth 100000 in
theorem portreevelaw01_FcsApart.calls (k : Nat) (A0 : Option Addr) (c0 : Nat) (l0 : List Int) (a1 : Int) (a2_0 : Int) (a2_1 : Int) (r : Bool) (w : World) (hlaw_ : Aside0 (r = true)) (hr0 : Kd.C (Kd.int .u8) w A0 l0.length l0) (hc0 : l0.length ≤ c0) (h : portreevelaw01_FcsApart.f k l0 a1 a2_0 a2_1 = some r) :
    Calls Try.prog 7 #[.slice A0 l0.length c0, .int .i64 a1, .agg #[.int .u8 a2_0, .int .u8 a2_1]] w fun e w' => e = .returned (.bool r) ∧ Below w.heap.size w w' := by
  have hu41 := Try.underlying41
  have HR0 := Aside0.mk hr0
  have HC0 := Aside0.mk hc0
  clear hr0 hc0
  have HB := Aside0.mk (Below.refl w.heap.size w)
  have H : ((portreevelaw01_shown.f k).bind fun t217 => (if (l0.length : Int) > 1000 then (portreevelaw01_FcsApart.j0 k l0 a1 t217 true a2_0 a2_1) else (if a1 < 0 then (portreevelaw01_FcsApart.j0 k l0 a1 t217 true a2_0 a2_1) else (if a1 > (wrap64 ((l0.length : Int) - 2)) then (portreevelaw01_FcsApart.j0 k l0 a1 t217 true a2_0 a2_1) else (portreevelaw01_FcsApart.j0 k l0 a1 t217 (a2_0 == 0 && (a2_1 == 0)) a2_0 a2_1))))) = some r := h
  clear h
  replace H := Option.bind_eq_some_iff.mp H
  obtain ⟨t217, A40, H⟩ := H
  replace H : (if (l0.length : Int) > 1000 then (portreevelaw01_FcsApart.j0 k l0 a1 t217 true a2_0 a2_1) else (if a1 < 0 then (portreevelaw01_FcsApart.j0 k l0 a1 t217 true a2_0 a2_1) else (if a1 > (wrap64 ((l0.length : Int) - 2)) then (portreevelaw01_FcsApart.j0 k l0 a1 t217 true a2_0 a2_1) else (portreevelaw01_FcsApart.j0 k l0 a1 t217 (a2_0 == 0 && (a2_1 == 0)) a2_0 a2_1)))) = some r := H
  have A4 := Aside0.mk A40
  clear A40
  have HC5 := Aside0.mk H
  clear H
  go_enter Try.func7, Try.ntmps7
  go_upto_region 2 with (first | ((with_reducible refine gate_dst (N := 5) rfl ?_); (try (refine gate_guard (by rfl) ?_; dsimp only)); refine box_event ?hg (N := 5) ?hd (cs := #[.int .u8 a2_0, .int .u8 a2_1]) (t := 41) ?hr ?_; (case hd => rfl); (case hg => rfl); (case hr => first | (go_simp; done) | (go_simp; rfl)); intro gb216 hg w6 hbox hb; have n0_ := Aside0.mk (below_step (by repeat (first | (with_reducible first | exact HB.out | apply pA | apply pN | apply pD) | exact HB.out)) hb); have n1_ := Aside0.mk (hbox); have n2_ := Aside0.mk ((by rw [hg]; exact (below_size (by repeat (first | (with_reducible first | exact HB.out | apply pA | apply pN | apply pD) | exact HB.out))) : w.heap.size ≤ gb216)); have n3_ := Aside0.mk ((by rw [hg]; exact (below_size (by repeat (first | (with_reducible first | exact HB.out | apply pA | apply pN | apply pD) | exact HB.out))) : w.heap.size ≤ gb216)); clear HB; have HB := n0_; have BK216 := n1_; have GW216 := n2_; have GE216 := n3_; clear n0_ n1_ n2_ n3_; clear hb hbox hg) | ((with_reducible refine gate_callee (f := 9) rfl ?_); refine goesL_ (some 11) rfl rfl Try.func9 (by kernel_rfl) rfl #[] rfl (by (try simp only [List.map_toArray, List.map_cons, List.map_nil]); first | done | rfl | (simp only [List.length_drop, List.length_take]; rfl)) ?_; (with_reducible refine (portreevelaw01_shown.calls k  t217 _ A4.out).mono ?_); rintro e w7 ⟨rfl, hb⟩; refine ⟨_, rfl, ?_⟩; have n0_ := Aside0.mk (blk_below (g := gb216) (o := .cells #[.int .u8 a2_0, .int .u8 a2_1] 41 (0, 0)) (by (with_reducible repeat (first | refine qN ?_ _ | refine qD ?_ | refine qA ?_ _)); exact BK216.out) hb); have n1_ := Aside0.mk (below_step (by repeat (first | (with_reducible first | exact HB.out | apply pA | apply pN | apply pD | refine pS ?_ GE216.out) | exact HB.out)) hb); clear BK216; clear HB; have BK216 := n0_; have HB := n1_; clear n0_ n1_; (try clear hb); (try clear hb2); (try clear hk); (try clear hi)))
  (try simp only [Act.put, List.setIfInBounds_toArray, List.set_cons_zero, List.set_cons_succ])
  go_cut [30] (fun v30 wc => ∃ (kq : Nat) (x30_4 : Bool), v30 = .bool x30_4 ∧ Aside0 (portreevelaw01_FcsApart.j0 kq l0 a1 t217 x30_4 a2_0 a2_1 = some r) ∧ Aside0 (kq ≤ k) ∧ Aside0 (wc.heap[gb216]? = some (.cells #[.int .u8 a2_0, .int .u8 a2_1] 41 (0, 0))) ∧ Aside0 (Below w.heap.size w wc))
  case first =>
    have H := HC5.out
    clear HC5
    by_cases c8 : (l0.length : Int) > 1000
    · rw [if_pos c8] at H
      have c8b0 : decide (1000 < (l0.length : Int)) = true := decide_eq_true c8
      have c8b1 : decide (1000 < l0.length) = true := decide_eq_true (by omega)
      clear c8
      (first | rw [c8b0] | (simp only [i64_w, i32_w]; rw [c8b0]) | skip)
      have H' := Aside0.mk H
      clear H
      go_wp2
      go_meet
      case rel => exact ⟨_, (true), (by first | rfl | (simp; done) | (simp [*]; done)), H', ⟨by first | omega | exact Nat.le_refl _⟩, ⟨by (with_reducible repeat (first | refine qN ?_ _ | refine qD ?_ | refine qA ?_ _)); exact BK216.out⟩, ⟨by repeat (first | (with_reducible first | exact HB.out | apply pA | apply pN | apply pD | refine pS ?_ GE216.out) | exact HB.out)⟩⟩
    · rw [if_neg c8] at H
      have c8b0 : decide (1000 < (l0.length : Int)) = false := decide_eq_false c8
      have c8b1 : decide (1000 < l0.length) = false := decide_eq_false (by omega)
      clear c8
      (first | rw [c8b0] | (simp only [i64_w, i32_w]; rw [c8b0]) | skip)
      by_cases c9 : a1 < 0
      · rw [if_pos c9] at H
        have c9b0 : decide (a1 < 0) = true := decide_eq_true c9
        clear c9
        have H' := Aside0.mk H
        clear H
        go_wp2
        go_meet
        case rel => exact ⟨_, (true), (by first | rfl | (simp; done) | (simp [*]; done)), H', ⟨by first | omega | exact Nat.le_refl _⟩, ⟨by (with_reducible repeat (first | refine qN ?_ _ | refine qD ?_ | refine qA ?_ _)); exact BK216.out⟩, ⟨by repeat (first | (with_reducible first | exact HB.out | apply pA | apply pN | apply pD | refine pS ?_ GE216.out) | exact HB.out)⟩⟩
      · rw [if_neg c9] at H
        have c9b0 : decide (a1 < 0) = false := decide_eq_false c9
        clear c9
        by_cases c10 : a1 > (wrap64 ((l0.length : Int) - 2))
        · rw [if_pos c10] at H
          have c10b0 : decide ((wrap64 ((l0.length : Int) - 2)) < a1) = true := decide_eq_true c10
          clear c10
          have H' := Aside0.mk H
          clear H
          go_wp2
          go_meet
          case rel => exact ⟨_, (true), (by first | rfl | (simp; done) | (simp [*]; done)), H', ⟨by first | omega | exact Nat.le_refl _⟩, ⟨by (with_reducible repeat (first | refine qN ?_ _ | refine qD ?_ | refine qA ?_ _)); exact BK216.out⟩, ⟨by repeat (first | (with_reducible first | exact HB.out | apply pA | apply pN | apply pD | refine pS ?_ GE216.out) | exact HB.out)⟩⟩
        · rw [if_neg c10] at H
          have c10b0 : decide ((wrap64 ((l0.length : Int) - 2)) < a1) = false := decide_eq_false c10
          clear c10
          have H' := Aside0.mk H
          clear H
          have hcz11_0 : w7.cell? ⟨gb216, 0, none⟩ = some (.int .u8 a2_0) := (blk_cell BK216.out 0).trans rfl
          have hcz11_1 : w7.cell? ⟨gb216, 1, none⟩ = some (.int .u8 a2_1) := (blk_cell BK216.out 1).trans rfl
          have hfz11_0 := blk_frozen BK216.out 0
          have hfz11_1 := blk_frozen BK216.out 1
          go_wp2
          go_meet
          case rel => exact ⟨_, ((a2_0 == 0 && (a2_1 == 0))), (by first | rfl | (simp; done) | (simp [*]; done)), H', ⟨by first | omega | exact Nat.le_refl _⟩, ⟨by (with_reducible repeat (first | refine qN ?_ _ | refine qD ?_ | refine qA ?_ _)); exact BK216.out⟩, ⟨by repeat (first | (with_reducible first | exact HB.out | apply pA | apply pN | apply pD | refine pS ?_ GE216.out) | exact HB.out)⟩⟩
  case rest =>
    clear HC5
    try clear c1
    try clear p2
    try clear p6
    try clear c7
    try clear c8
    try clear c8b0
    try clear c8b1
    try clear c9
    try clear c9b0
    try clear c10
    try clear c10b0
    try clear hcz11_0
    try clear hcz11_1
    try clear hfz11_0
    try clear hfz11_1
    obtain ⟨kq, x30_4, rfl, HA, HJ4, BK216, HB⟩ := hcut
    cases kq with
    | zero => exact absurd HA.out (by simp [portreevelaw01_FcsApart.j0])
    | succ kj4 =>
      have H := HA.out
      clear HA
      simp only [portreevelaw01_FcsApart.j0] at H
      by_cases c12 : x30_4 = true
      · subst c12
        have H1 : (some t217) = some r := by rw [if_pos rfl] at H; exact H
        clear H
        have H := H1
        clear H1
        clear hlaw_
        obtain rfl := Option.some.inj H
        go_wp2
        go_ret
        exact ⟨by first | rfl | (simp [errW_none, errW_some] <;> rfl) | (simp [*, errW_none, errW_some] <;> rfl), by repeat (first | (with_reducible first | exact HB.out | apply pA | apply pN | apply pD | refine pS ?_ GE216.out) | exact HB.out)⟩
      · replace c12 := Bool.eq_false_iff.mpr c12
        subst c12
        have H1 : ((some (([] : List Int) : List Int)).bind fun y218 => (if y218.length + l0.length < 140737488355328 then ((some (y218 ++ l0 : List Int)).bind fun y221 => (if 0 ≤ a1 then (if a1 < (y221.length : Int) then ((some (y221.set (a1 : Int).toNat (Go.bits .xor .u8 (rd y221 a1) a2_0) : List Int)).bind fun y225 => (if 0 ≤ (wrap64 (a1 + 1)) then (if (wrap64 (a1 + 1)) < (y221.length : Int) then ((fcs_Put.f kj4 l0).bind fun t228 => ((fcs_Put.f kj4 (y225.set ((wrap64 (a1 + 1)) : Int).toNat (Go.bits .xor .u8 (rd y225 (wrap64 (a1 + 1))) a2_1))).bind fun t231 => (if t217 = true then (if (t228.length : Int) = (t231.length : Int) then (if 0 ≤ (l0.length : Int) then (if (l0.length : Int) ≤ (t228.length : Int) then (if (l0.length : Int) ≤ (t231.length : Int) then ((portreeveref01_Row.f kj4 (t228.drop ((l0.length : Int) : Int).toNat) (t231.drop ((l0.length : Int) : Int).toNat)).bind fun t242 => (some (!t242))) else (none)) else (none)) else (none)) else (some false)) else (some false)))) else (none)) else (none))) else (none)) else (none))) else (none))) = some r := by rw [if_neg (show ¬ (false = true) by decide)] at H; exact H
        clear H
        have H := H1
        clear H1
        obtain ⟨y218, hy218⟩ : ∃ y_ : List Int, y_ = (([] : List Int)) := ⟨_, rfl⟩
        replace H : (if y218.length + l0.length < 140737488355328 then ((some (y218 ++ l0 : List Int)).bind fun y221 => (if 0 ≤ a1 then (if a1 < (y221.length : Int) then ((some (y221.set (a1 : Int).toNat (Go.bits .xor .u8 (rd y221 a1) a2_0) : List Int)).bind fun y225 => (if 0 ≤ (wrap64 (a1 + 1)) then (if (wrap64 (a1 + 1)) < (y221.length : Int) then ((fcs_Put.f kj4 l0).bind fun t228 => ((fcs_Put.f kj4 (y225.set ((wrap64 (a1 + 1)) : Int).toNat (Go.bits .xor .u8 (rd y225 (wrap64 (a1 + 1))) a2_1))).bind fun t231 => (if t217 = true then (if (t228.length : Int) = (t231.length : Int) then (if 0 ≤ (l0.length : Int) then (if (l0.length : Int) ≤ (t228.length : Int) then (if (l0.length : Int) ≤ (t231.length : Int) then ((portreeveref01_Row.f kj4 (t228.drop ((l0.length : Int) : Int).toNat) (t231.drop ((l0.length : Int) : Int).toNat)).bind fun t242 => (some (!t242))) else (none)) else (none)) else (none)) else (some false)) else (some false)))) else (none)) else (none))) else (none)) else (none))) else (none)) = some r := by first | (rw [hy218]; with_reducible exact H) | (have H2_ := (Option.bind_some _ _).symm.trans H; rw [hy218]; with_reducible exact H2_) | (have H2_ := (Option.bind_some _ _).symm.trans H; with_reducible exact H2_) | with_reducible exact H | (rw [hy218]; exact H) | exact H
        have Ny218 := Aside0.mk hy218
        clear hy218
        by_cases c13 : y218.length + l0.length < 140737488355328
        · rw [if_pos c13] at H
          have LMc13 := Aside0.mk c13
          clear c13
          obtain ⟨y221, hy221⟩ : ∃ y_ : List Int, y_ = (y218 ++ l0) := ⟨_, rfl⟩
          replace H : (if 0 ≤ a1 then (if a1 < (y221.length : Int) then ((some (y221.set (a1 : Int).toNat (Go.bits .xor .u8 (rd y221 a1) a2_0) : List Int)).bind fun y225 => (if 0 ≤ (wrap64 (a1 + 1)) then (if (wrap64 (a1 + 1)) < (y221.length : Int) then ((fcs_Put.f kj4 l0).bind fun t228 => ((fcs_Put.f kj4 (y225.set ((wrap64 (a1 + 1)) : Int).toNat (Go.bits .xor .u8 (rd y225 (wrap64 (a1 + 1))) a2_1))).bind fun t231 => (if t217 = true then (if (t228.length : Int) = (t231.length : Int) then (if 0 ≤ (l0.length : Int) then (if (l0.length : Int) ≤ (t228.length : Int) then (if (l0.length : Int) ≤ (t231.length : Int) then ((portreeveref01_Row.f kj4 (t228.drop ((l0.length : Int) : Int).toNat) (t231.drop ((l0.length : Int) : Int).toNat)).bind fun t242 => (some (!t242))) else (none)) else (none)) else (none)) else (some false)) else (some false)))) else (none)) else (none))) else (none)) else (none)) = some r := by first | (rw [hy221]; with_reducible exact H) | (have H2_ := (Option.bind_some _ _).symm.trans H; rw [hy221]; with_reducible exact H2_) | (have H2_ := (Option.bind_some _ _).symm.trans H; with_reducible exact H2_) | with_reducible exact H | (rw [hy221]; exact H) | exact H
          have Ny221 := Aside0.mk hy221
          clear hy221
          by_cases c14 : 0 ≤ a1
          · rw [if_pos c14] at H
            have c14b0 : decide (0 ≤ a1) = true := decide_eq_true c14
            clear c14
            by_cases c15 : a1 < (y221.length : Int)
            · rw [if_pos c15] at H
              have c15b0 : decide (a1 < (y221.length : Int)) = true := decide_eq_true c15
              clear c15
              obtain ⟨y225, hy225⟩ : ∃ y_ : List Int, y_ = (y221.set (a1 : Int).toNat (Go.bits .xor .u8 (rd y221 a1) a2_0)) := ⟨_, rfl⟩
              replace H : (if 0 ≤ (wrap64 (a1 + 1)) then (if (wrap64 (a1 + 1)) < (y221.length : Int) then ((fcs_Put.f kj4 l0).bind fun t228 => ((fcs_Put.f kj4 (y225.set ((wrap64 (a1 + 1)) : Int).toNat (Go.bits .xor .u8 (rd y225 (wrap64 (a1 + 1))) a2_1))).bind fun t231 => (if t217 = true then (if (t228.length : Int) = (t231.length : Int) then (if 0 ≤ (l0.length : Int) then (if (l0.length : Int) ≤ (t228.length : Int) then (if (l0.length : Int) ≤ (t231.length : Int) then ((portreeveref01_Row.f kj4 (t228.drop ((l0.length : Int) : Int).toNat) (t231.drop ((l0.length : Int) : Int).toNat)).bind fun t242 => (some (!t242))) else (none)) else (none)) else (none)) else (some false)) else (some false)))) else (none)) else (none)) = some r := by first | (rw [hy225]; with_reducible exact H) | (have H2_ := (Option.bind_some _ _).symm.trans H; rw [hy225]; with_reducible exact H2_) | (have H2_ := (Option.bind_some _ _).symm.trans H; with_reducible exact H2_) | with_reducible exact H | (rw [hy225]; exact H) | exact H
              have Ny225 := Aside0.mk hy225
              clear hy225
              obtain ⟨ji17, hji17⟩ : ∃ j_ : Int, (wrap64 (a1 + 1)) = j_ := ⟨_, rfl⟩
              replace H : (if 0 ≤ (ji17) then (if (ji17) < (y221.length : Int) then ((fcs_Put.f kj4 l0).bind fun t228 => ((fcs_Put.f kj4 (y225.set ((ji17) : Int).toNat (Go.bits .xor .u8 (rd y225 (ji17)) a2_1))).bind fun t231 => (if t217 = true then (if (t228.length : Int) = (t231.length : Int) then (if 0 ≤ (l0.length : Int) then (if (l0.length : Int) ≤ (t228.length : Int) then (if (l0.length : Int) ≤ (t231.length : Int) then ((portreeveref01_Row.f kj4 (t228.drop ((l0.length : Int) : Int).toNat) (t231.drop ((l0.length : Int) : Int).toNat)).bind fun t242 => (some (!t242))) else (none)) else (none)) else (none)) else (some false)) else (some false)))) else (none)) else (none)) = some r := by first | (rw [hji17] at H; exact H) | (simp only [hji17] at H ⊢; exact H)
              have hji17w : (IntKind.i64.wrap (a1 + 1)) = ji17 := (i64_w _).trans hji17
              by_cases c18 : 0 ≤ (ji17)
              · rw [if_pos c18] at H
                have c18b0 : decide (0 ≤ (ji17)) = true := decide_eq_true c18
                clear c18
                by_cases c19 : (ji17) < (y221.length : Int)
                · rw [if_pos c19] at H
                  have c19b0 : decide ((ji17) < (y221.length : Int)) = true := decide_eq_true c19
                  clear c19
                  obtain ⟨y227, hy227⟩ : ∃ y_ : List Int, y_ = (y225.set ((ji17) : Int).toNat (Go.bits .xor .u8 (rd y225 (ji17)) a2_1)) := ⟨_, rfl⟩
                  replace H : ((fcs_Put.f kj4 l0).bind fun t228 => ((fcs_Put.f kj4 y227).bind fun t231 => (if t217 = true then (if (t228.length : Int) = (t231.length : Int) then (if 0 ≤ (l0.length : Int) then (if (l0.length : Int) ≤ (t228.length : Int) then (if (l0.length : Int) ≤ (t231.length : Int) then ((portreeveref01_Row.f kj4 (t228.drop ((l0.length : Int) : Int).toNat) (t231.drop ((l0.length : Int) : Int).toNat)).bind fun t242 => (some (!t242))) else (none)) else (none)) else (none)) else (some false)) else (some false)))) = some r := by first | (rw [hy227]; with_reducible exact H) | (have H2_ := (Option.bind_some _ _).symm.trans H; rw [hy227]; with_reducible exact H2_) | (have H2_ := (Option.bind_some _ _).symm.trans H; with_reducible exact H2_) | with_reducible exact H | (rw [hy227]; exact H) | exact H
                  have Ny227 := Aside0.mk hy227
                  clear hy227
                  replace H := Option.bind_eq_some_iff.mp H
                  obtain ⟨t228, A210, H⟩ := H
                  replace H : ((fcs_Put.f kj4 y227).bind fun t231 => (if t217 = true then (if (t228.length : Int) = (t231.length : Int) then (if 0 ≤ (l0.length : Int) then (if (l0.length : Int) ≤ (t228.length : Int) then (if (l0.length : Int) ≤ (t231.length : Int) then ((portreeveref01_Row.f kj4 (t228.drop ((l0.length : Int) : Int).toNat) (t231.drop ((l0.length : Int) : Int).toNat)).bind fun t242 => (some (!t242))) else (none)) else (none)) else (none)) else (some false)) else (some false))) = some r := H
                  have A21 := Aside0.mk A210
                  clear A210
                  replace H := Option.bind_eq_some_iff.mp H
                  obtain ⟨t231, A220, H⟩ := H
                  replace H : (if t217 = true then (if (t228.length : Int) = (t231.length : Int) then (if 0 ≤ (l0.length : Int) then (if (l0.length : Int) ≤ (t228.length : Int) then (if (l0.length : Int) ≤ (t231.length : Int) then ((portreeveref01_Row.f kj4 (t228.drop ((l0.length : Int) : Int).toNat) (t231.drop ((l0.length : Int) : Int).toNat)).bind fun t242 => (some (!t242))) else (none)) else (none)) else (none)) else (some false)) else (some false)) = some r := H
                  have A22 := Aside0.mk A220
                  clear A220
                  by_cases c23 : t217 = true
                  · subst c23
                    have H1 : (if (t228.length : Int) = (t231.length : Int) then (if 0 ≤ (l0.length : Int) then (if (l0.length : Int) ≤ (t228.length : Int) then (if (l0.length : Int) ≤ (t231.length : Int) then ((portreeveref01_Row.f kj4 (t228.drop ((l0.length : Int) : Int).toNat) (t231.drop ((l0.length : Int) : Int).toNat)).bind fun t242 => (some (!t242))) else (none)) else (none)) else (none)) else (some false)) = some r := by rw [if_pos rfl] at H; exact H
                    clear H
                    have H := H1
                    clear H1
                    by_cases c24 : (t228.length : Int) = (t231.length : Int)
                    · rw [if_pos c24] at H
                      have c24b0 : ((t228.length : Int) == (t231.length : Int)) = true := beq_iff_eq.mpr c24
                      have c24b1 : ((t228.length : Int) != (t231.length : Int)) = false := bne_eq_false_iff_eq.mpr c24
                      have c24b2 : (t228.length == t231.length) = true := by first | simpa using c24 | (simp at c24 ⊢; omega)
                      clear c24
                      by_cases c25 : 0 ≤ (l0.length : Int)
                      · rw [if_pos c25] at H
                        have c25b0 := eq_true c25
                        have c25b1 : decide (0 ≤ (l0.length : Int)) = true := decide_eq_true c25
                        clear c25
                        by_cases c26 : (l0.length : Int) ≤ (t228.length : Int)
                        · rw [if_pos c26] at H
                          have c26b0 := eq_true c26
                          have c26b1 : decide ((l0.length : Int) ≤ (t228.length : Int)) = true := decide_eq_true c26
                          clear c26
                          obtain ⟨y234, hy234⟩ : ∃ y_ : List Int, y_ = (t228.drop ((l0.length : Int) : Int).toNat) := ⟨_, rfl⟩
                          replace H : (if (l0.length : Int) ≤ (t231.length : Int) then ((portreeveref01_Row.f kj4 y234 (t231.drop ((l0.length : Int) : Int).toNat)).bind fun t242 => (some (!t242))) else (none)) = some r := by first | (rw [hy234]; with_reducible exact H) | (have H2_ := (Option.bind_some _ _).symm.trans H; rw [hy234]; with_reducible exact H2_) | (have H2_ := (Option.bind_some _ _).symm.trans H; with_reducible exact H2_) | with_reducible exact H | (rw [hy234]; exact H) | exact H
                          have Ny234 := Aside0.mk hy234
                          clear hy234
                          have c27b0 := eq_true (of_decide_eq_true (by first | (with_reducible assumption) | assumption) : 0 ≤ (l0.length : Int))
                          by_cases c28 : (l0.length : Int) ≤ (t231.length : Int)
                          · rw [if_pos c28] at H
                            have c28b0 := eq_true c28
                            have c28b1 : decide ((l0.length : Int) ≤ (t231.length : Int)) = true := decide_eq_true c28
                            clear c28
                            obtain ⟨y238, hy238⟩ : ∃ y_ : List Int, y_ = (t231.drop ((l0.length : Int) : Int).toNat) := ⟨_, rfl⟩
                            replace H : ((portreeveref01_Row.f kj4 y234 y238).bind fun t242 => (some (!t242))) = some r := by first | (rw [hy238]; with_reducible exact H) | (have H2_ := (Option.bind_some _ _).symm.trans H; rw [hy238]; with_reducible exact H2_) | (have H2_ := (Option.bind_some _ _).symm.trans H; with_reducible exact H2_) | with_reducible exact H | (rw [hy238]; exact H) | exact H
                            have Ny238 := Aside0.mk hy238
                            clear hy238
                            replace H := Option.bind_eq_some_iff.mp H
                            obtain ⟨t242, A290, H⟩ := H
                            replace H : (some (!t242)) = some r := H
                            have A29 := Aside0.mk A290
                            clear A290
                            clear hlaw_
                            obtain rfl := Option.some.inj H
                            try go_wp2_with (first | ((with_reducible refine gate_dst (N := 32) rfl ?_); (try (refine gate_guard (by rfl) ?_; dsimp only)); refine Kd.R_lit (Kd.int .u8) _ 5 ?hg (N := 32) ?hd (xs := ([] : List Int)) (inner := []) (ok := fun _ => True) (okp := fun _ => True) ?hr ?hp (fun _ hk => hk) trivial (Below.refl _ _) (Nat.le_refl _) (by simp) ?_; (case hd => rfl); (case hg => rfl); (case hr => first | (go_simp; done) | (go_simp; rfl)); (case hp => exact (Reps.none _ _)); intro v219 w30 ho31 hb hg_ hnew_; clear hg_ hnew_; (first | rw [← Ny218.out] at ho31 | (simp only [Int.reduceToNat] at ho31; rw [← Ny218.out] at ho31)); have n0_ := Aside0.mk (Kd.R_lower ho31 (below_size (by repeat (first | (with_reducible first | exact HB.out | apply pA | apply pN | apply pD | refine pS ?_ GE216.out) | exact HB.out)))); have n1_ := Aside0.mk (blk_below (g := gb216) (o := .cells #[.int .u8 a2_0, .int .u8 a2_1] 41 (0, 0)) (by (with_reducible repeat (first | refine qN ?_ _ | refine qD ?_ | refine qA ?_ _)); exact BK216.out) hb); have n2_ := Aside0.mk (below_step (by repeat (first | (with_reducible first | exact HB.out | apply pA | apply pN | apply pD | refine pS ?_ GE216.out) | exact HB.out)) hb); clear BK216; clear HB; have HO220 := n0_; have BK216 := n1_; have HB := n2_; clear n0_ n1_ n2_; clear hb ho31) | ((with_reducible refine gate_builtin (b := .append) (xs := #[.tmp 32, .tmp 33]) rfl ?_); (try (refine gate_guard (by rfl) ?_; dsimp only)); at_builtin; refine Kd.R_append_rows (Kd.int .u8) (w0 := w) w.heap.size rfl (.tmp 32) (.tmp 33) 23 5 (.int .u8 0) 1 rfl Try.underlying23 info5 rfl (by decide) (by omega) v219 y218 l0 _ _ _ (fun _ => True) (fun _ => False) rfl rfl ?aO ?aR (fun _ _ h => h) (fun _ h => h.elim) ?aF ?aB ?aS ?aL ?_; (case aR => repeat (first | exact (Kd.C_below HR0.out HB.out) | (with_reducible refine Kd.C_alloc ?_ _) | (with_reducible refine Kd.C_drewN ?_ _) | (with_reducible refine Kd.C_drew ?_))); (case aB => exact (by repeat (first | (with_reducible first | exact HB.out | apply pA | apply pN | apply pD | refine pS ?_ GE216.out) | exact HB.out))); (case aF => exact (fun _ _ => trivial)); (case aO => exact (by (with_reducible repeat (first | apply Kd.R_alloc | apply Kd.R_drewN | apply Kd.R_drew)); exact HO220.out)); (case aS => exact (below_size (by repeat (first | (with_reducible first | exact HB.out | apply pA | apply pN | apply pD | refine pS ?_ GE216.out) | exact HB.out)))); (case aL => have := LMc13.out; omega); intro v222 w32 ho hb hg hat; rw [← Ny221.out] at ho; have n0_ := Aside0.mk (blk_grown (g := gb216) (o := .cells #[.int .u8 a2_0, .int .u8 a2_1] 41 (0, 0)) (by (with_reducible repeat (first | refine qN ?_ _ | refine qD ?_ | refine qA ?_ _)); exact BK216.out) hg (Kd.R_ne HO220.out BK216.out (by decide))); have n1_ := Aside0.mk (hb); have n2_ := Aside0.mk (ho); clear BK216; clear HB; clear HO220; have BK216 := n0_; have HB := n1_; have HO223 := n2_; clear n0_ n1_ n2_; clear ho hb hg hat))
                            have n0_ := Aside0.mk (Kd.R_drew HO223.out)
                            have n1_ := Aside0.mk (qD BK216.out)
                            have n2_ := Aside0.mk (pD HB.out)
                            clear HO223
                            clear BK216
                            clear HB
                            have HO223 := n0_
                            have BK216 := n1_
                            have HB := n2_
                            clear n0_ n1_ n2_
                            obtain ⟨Ao34, co34, eo34⟩ := Kd.R_slice HO223.out
                            (first | subst eo34 | (injection eo34 with f1_ f2_ f3_; have f4_ := f1_.symm; have f5_ := f3_.symm; clear f1_ f2_ f3_; subst f4_; subst f5_))
                            have p224 : 0 ≤ (a1 : Int) := of_decide_eq_true (by first | (with_reducible assumption) | assumption)
                            have q224 : a1 < (y221.length : Int) := of_decide_eq_true (by first | (with_reducible assumption) | assumption)
                            obtain ⟨ad224, e224, hx224_0⟩ := Kd.at_int (Kd.R_reads' HO223.out).2.2 a1 p224 q224
                            cases e224
                            replace p224 := eq_true p224
                            replace q224 := eq_true q224
                            have p16 : 0 ≤ (a1 : Int) := of_decide_eq_true (by first | (with_reducible assumption) | assumption)
                            have q16 : (a1 : Int) < ((y221.length : Int) : Int) := of_decide_eq_true (by first | (with_reducible assumption) | assumption)
                            obtain ⟨go16, co16, eo16, gb16, gl16, cl16, HG16⟩ := Kd.R_form HO223.out (by omega)
                            (first | cases eo16 | (injection eo16 with ea_ en_ ec_; (first | subst ea_ | (injection ea_ with ea_; subst ea_)); subst ec_; clear en_))
                            have GB16 := Aside0.mk gb16
                            have GG16 := Aside0.mk HG16
                            clear gb16 gl16 HG16
                            (first | simp only [add_plain] at hx224_0 | skip)
                            obtain ⟨hx16_0, hf16_0⟩ := Kd.R_celln 0 HO223.out (a1 : Int) p16 q16
                            replace p16 := eq_true p16
                            replace q16 := eq_true q16
                            have HP35 := Kd.R_putn HO223.out (a1 : Int) (Go.bits .xor .u8 (rd y221 a1) a2_0)
                            rw [← Ny225.out] at HP35
                            have HQ35 := Aside0.mk HP35
                            clear HP35
                            refine start_ (n := 11) (S := fun w' => w'.cell? ⟨gb216, 0, none⟩ = some (.int .u8 a2_0) ∧ w'.cell? ⟨gb216, 1, none⟩ = some (.int .u8 a2_1) ∧ w'.cell? ⟨go16, (a1).toNat, none⟩ = some (.int .u8 (rd y221 a1))) (ds := [10]) #[false, false, false, false, false, false, false, false, false, false, false] (by kernel_rfl) rfl rfl ⟨(blk_cell BK216.out 0).trans rfl, (blk_cell BK216.out 1).trans rfl, hx224_0⟩ (fun hHeld => ?_); refine with_tabW portreevelaw01_FcsApart.tab5 portreevelaw01_FcsApart.bits5 (fun HT_ HW_ => ?_)
                            generalize w32.drew = w33 at HO223 BK216 HB GG16 HQ35 hf16_0 hx16_0 hx224_0 hHeld ⊢
                            refine pure_ (i := 0) (N := some 35) (v := ?_) (a' := ?_) #[true, false, false, false, false, false, false, false, false, false, false] rfl rfl (any_of HT_.out (by kernel_rfl)) (fun _ _ _ h => h) (Or.inl ⟨by rfl, ?_⟩) ?_ ?_
                            rotate_left
                            · intro w'
                              go_simp
                              with_reducible rfl
                            rotate_left
                            · simp only [Act.put, List.setIfInBounds_toArray, List.set_cons_zero, List.set_cons_succ, i64_w, i32_w]
                              rfl
                            refine pure_ (i := 1) (N := some 36) (v := ?_) (a' := ?_) #[true, true, false, false, false, false, false, false, false, false, false] rfl rfl (any_of HT_.out (by kernel_rfl)) (fun _ _ _ h => h) (Or.inl ⟨by rfl, ?_⟩) ?_ ?_
                            rotate_left
                            · intro w'
                              go_simp
                              with_reducible rfl
                            rotate_left
                            · simp only [Act.put, List.setIfInBounds_toArray, List.set_cons_zero, List.set_cons_succ, i64_w, i32_w]
                              rfl
                            refine pure_ (i := 2) (N := some 37) (v := ?_) (a' := ?_) #[true, true, true, false, false, false, false, false, false, false, false] rfl rfl (any_of HT_.out (by kernel_rfl)) (fun _ _ _ h => h) (Or.inl ⟨by rfl, ?_⟩) ?_ ?_
                            rotate_left
                            · intro w'
                              go_simp
                              with_reducible rfl
                            rotate_left
                            · simp only [Act.put, List.setIfInBounds_toArray, List.set_cons_zero, List.set_cons_succ, i64_w, i32_w]
                              rfl
                            refine pure_ (i := 3) (N := some 38) (v := ?_) (a' := ?_) #[true, true, true, true, false, false, false, false, false, false, false] rfl rfl (any_of HT_.out (by kernel_rfl)) (fun _ _ _ h => h) (Or.inl ⟨by rfl, ?_⟩) ?_ ?_
                            rotate_left
                            · intro w'
                              go_simp
                              with_reducible rfl
                            rotate_left
                            · simp only [Act.put, List.setIfInBounds_toArray, List.set_cons_zero, List.set_cons_succ, i64_w, i32_w]
                              rfl
                            refine pure_ (i := 4) (N := some 39) (v := ?_) (a' := ?_) #[true, true, true, true, true, false, false, false, false, false, false] rfl rfl (any_of HT_.out (by kernel_rfl)) (fun _ _ _ h => h) (Or.inl ⟨by rfl, ?_⟩) ?_ ?_
                            rotate_left
                            · intro w'
                              go_simp
                              with_reducible rfl
                            rotate_left
                            · simp only [Act.put, List.setIfInBounds_toArray, List.set_cons_zero, List.set_cons_succ, i64_w, i32_w]
                              rfl
                            refine pure_ (i := 6) (N := some 41) (v := ?_) (a' := ?_) #[true, true, true, true, true, false, true, false, false, false, false] rfl rfl (any_of HT_.out (by kernel_rfl)) (fun _ _ _ h => h) (Or.inl ⟨by rfl, ?_⟩) ?_ ?_
                            rotate_left
                            · intro w'
                              go_simp
                              with_reducible rfl
                            rotate_left
                            · simp only [Act.put, List.setIfInBounds_toArray, List.set_cons_zero, List.set_cons_succ, i64_w, i32_w]
                              rfl
                            refine take_ (i := 5) (N := some 40) (v := ?_) (a' := ?_) #[true, true, true, true, true, true, true, false, false, false, false] rfl rfl (take_ofW HT_.out HW_.out (by kernel_rfl)) (fun _ _ _ h => h) (Or.inl ⟨by rfl, ?_⟩) hHeld ?_ ?_
                            rotate_left
                            · rintro w' ⟨s0, s1, s2⟩
                              go_simp
                              with_reducible rfl
                            rotate_left
                            · simp only [Act.put, List.setIfInBounds_toArray, List.set_cons_zero, List.set_cons_succ, i64_w, i32_w]
                              rfl
                            refine take_ (i := 7) (N := some 42) (v := ?_) (a' := ?_) #[true, true, true, true, true, true, true, true, false, false, false] rfl rfl (take_ofW HT_.out HW_.out (by kernel_rfl)) (fun _ _ _ h => h) (Or.inl ⟨by rfl, ?_⟩) hHeld ?_ ?_
                            rotate_left
                            · rintro w' ⟨s0, s1, s2⟩
                              go_simp
                              with_reducible rfl
                            rotate_left
                            · simp only [Act.put, List.setIfInBounds_toArray, List.set_cons_zero, List.set_cons_succ, i64_w, i32_w]
                              rfl
                            refine pure_ (i := 8) (N := some 43) (v := ?_) (a' := ?_) #[true, true, true, true, true, true, true, true, true, false, false] rfl rfl (any_of HT_.out (by kernel_rfl)) (fun _ _ _ h => h) (Or.inl ⟨by rfl, ?_⟩) ?_ ?_
                            rotate_left
                            · intro w'
                              go_simp
                              with_reducible rfl
                            rotate_left
                            · simp only [Act.put, List.setIfInBounds_toArray, List.set_cons_zero, List.set_cons_succ, i64_w, i32_w]
                              rfl
                            refine pure_ (i := 9) (N := some 44) (v := ?_) (a' := ?_) #[true, true, true, true, true, true, true, true, true, true, false] rfl rfl (any_of HT_.out (by kernel_rfl)) (fun _ _ _ h => h) (Or.inl ⟨by rfl, ?_⟩) ?_ ?_
                            rotate_left
                            · intro w'
                              go_simp
                              with_reducible rfl
                            rotate_left
                            · simp only [Act.put, List.setIfInBounds_toArray, List.set_cons_zero, List.set_cons_succ, i64_w, i32_w]
                              rfl
                            refine last_ (i := 10) (N := none) #[true, true, true, true, true, true, true, true, true, true, true] rfl rfl (one_of HT_.out (by kernel_rfl)) (by decide) (fun K hK => ?_)
                            refine skip_ (w1 := ?_) (by rfl) rfl ?_ ?_
                            rotate_left
                            · go_simp
                              rfl
                            refine hK.out _ _ ?_
                            clear hK K
                            refine done_ (done_of HT_.out (by kernel_rfl)) ?_
                            try go_wp2
                            have n0_ : Aside0 (Kd.R (Kd.int .u8) 5 (w33.setCell ⟨go16, (a1 : Int).toNat, none⟩ (.int .u8 (Go.bits .xor .u8 (rd y221 a1) a2_0))) w.heap.size (fun _ => True) (.slice (some ⟨go16, 0, none⟩) y221.length co34) y225) := ⟨by (with_reducible repeat (first | apply Kd.R_alloc | apply Kd.R_drewN | apply Kd.R_drew)); exact HQ35.out⟩
                            have n1_ : Aside0 ((w33.setCell ⟨go16, (a1 : Int).toNat, none⟩ (.int .u8 (Go.bits .xor .u8 (rd y221 a1) a2_0))).heap[gb216]? = some (.cells #[.int .u8 a2_0, .int .u8 a2_1] 41 (0, 0))) := ⟨by (with_reducible repeat (first | refine qN ?_ _ | refine qD ?_ | refine qA ?_ _)); refine blk_far ?_ (by have h_ := Kd.R_ne HO223.out BK216.out (by decide); intro e_; exact h_ (by rw [e_]; rfl)) _; (with_reducible repeat (first | refine qN ?_ _ | refine qD ?_ | refine qA ?_ _)); exact BK216.out⟩
                            have n2_ : Aside0 (Below w.heap.size w (w33.setCell ⟨go16, (a1 : Int).toNat, none⟩ (.int .u8 (Go.bits .xor .u8 (rd y221 a1) a2_0)))) := ⟨by repeat (first | (with_reducible first | exact HB.out | apply pA | apply pN | apply pD | refine pS ?_ GB16.out | refine pS ?_ GE216.out) | exact HB.out)⟩
                            (try clear HO223)
                            (try clear BK216)
                            (try clear HB)
                            generalize (w33.setCell ⟨go16, (a1 : Int).toNat, none⟩ (.int .u8 (Go.bits .xor .u8 (rd y221 a1) a2_0))) = w36 at n0_ n1_ n2_ ⊢
                            have HO223 := n0_
                            have BK216 := n1_
                            have HB := n2_
                            clear n0_ n1_ n2_
                            have n0_ := Aside0.mk (Kd.R_drew HO223.out)
                            have n1_ := Aside0.mk (qD BK216.out)
                            have n2_ := Aside0.mk (pD HB.out)
                            clear HO223
                            clear BK216
                            clear HB
                            have HO223 := n0_
                            have BK216 := n1_
                            have HB := n2_
                            clear n0_ n1_ n2_
                            have p226 : 0 ≤ ((ji17) : Int) := of_decide_eq_true (by first | (with_reducible assumption) | assumption)
                            have q226 : (ji17) < (y225.length : Int) := (by have h_ : ((ji17) : Int) < ((y221.length : Int) : Int) := of_decide_eq_true (by first | (with_reducible assumption) | assumption); first | (have e_ := (Kd.R_reads' HO223.out).1; omega) | simpa only [Ny225.out, List.length_set] using h_)
                            have ql226 : (((ji17) : Int) < ((y221.length : Int) : Int)) = True := eq_true (of_decide_eq_true (by first | (with_reducible assumption) | assumption))
                            obtain ⟨ad226, e226, hx226_0⟩ := Kd.at_int (Kd.R_reads' HO223.out).2.2 (ji17) p226 q226
                            obtain rfl : (⟨go16, 0, none⟩ : Addr) = ad226 := (by injection e226)
                            (first | simp only [add_plain] at hx226_0 | simp only [add_at] at hx226_0 | simp only [Addr.add, Nat.zero_add] at hx226_0 | skip)
                            replace p226 := eq_true p226
                            replace q226 := eq_true q226
                            have p20 : 0 ≤ ((ji17) : Int) := of_decide_eq_true (by first | (with_reducible assumption) | assumption)
                            have q20 : ((ji17) : Int) < ((y221.length : Int) : Int) := of_decide_eq_true (by first | (with_reducible assumption) | assumption)
                            obtain ⟨hx20_0, hf20_0⟩ := Kd.R_celln 0 HO223.out ((ji17) : Int) p20 q20
                            replace p20 := eq_true p20
                            replace q20 := eq_true q20
                            have HP38 := Kd.R_putn HO223.out ((ji17) : Int) (Go.bits .xor .u8 (rd y225 (ji17)) a2_1)
                            rw [← Ny227.out] at HP38
                            have HQ38 := Aside0.mk HP38
                            clear HP38
                            refine start_ (n := 13) (S := fun w' => w'.cell? ⟨gb216, 0, none⟩ = some (.int .u8 a2_0) ∧ w'.cell? ⟨gb216, 1, none⟩ = some (.int .u8 a2_1) ∧ w'.cell? ⟨go16, ((ji17)).toNat, none⟩ = some (.int .u8 (rd y225 (ji17)))) (ds := [12]) #[false, false, false, false, false, false, false, false, false, false, false, false, false] (by kernel_rfl) rfl rfl ⟨(blk_cell BK216.out 0).trans rfl, (blk_cell BK216.out 1).trans rfl, hx226_0⟩ (fun hHeld => ?_); refine with_tabW portreevelaw01_FcsApart.tab6 portreevelaw01_FcsApart.bits6 (fun HT_ HW_ => ?_)
                            generalize w36.drew = w37 at HO223 BK216 HB HQ35 HQ38 hf20_0 hx20_0 hx226_0 hHeld ⊢
                            refine pure_ (i := 0) (N := some 45) (v := ?_) (a' := ?_) #[true, false, false, false, false, false, false, false, false, false, false, false, false] rfl rfl (any_of HT_.out (by kernel_rfl)) (fun _ _ _ h => h) (Or.inl ⟨by rfl, ?_⟩) ?_ ?_
                            rotate_left
                            · intro w'
                              go_simp
                              with_reducible rfl
                            rotate_left
                            · simp only [Act.put, List.setIfInBounds_toArray, List.set_cons_zero, List.set_cons_succ, i64_w, i32_w]
                              rfl
                            refine pure_ (i := 1) (N := some 46) (v := ?_) (a' := ?_) #[true, true, false, false, false, false, false, false, false, false, false, false, false] rfl rfl (any_of HT_.out (by kernel_rfl)) (fun _ _ _ h => h) (Or.inl ⟨by rfl, ?_⟩) ?_ ?_
                            rotate_left
                            · intro w'
                              go_simp
                              with_reducible rfl
                            rotate_left
                            · simp only [Act.put, List.setIfInBounds_toArray, List.set_cons_zero, List.set_cons_succ, i64_w, i32_w]
                              rfl
                            refine pure_ (i := 2) (N := some 47) (v := ?_) (a' := ?_) #[true, true, true, false, false, false, false, false, false, false, false, false, false] rfl rfl (any_of HT_.out (by kernel_rfl)) (fun _ _ _ h => h) (Or.inl ⟨by rfl, ?_⟩) ?_ ?_
                            rotate_left
                            · intro w'
                              go_simp
                              with_reducible rfl
                            rotate_left
                            · simp only [Act.put, List.setIfInBounds_toArray, List.set_cons_zero, List.set_cons_succ, i64_w, i32_w]
                              rfl
                            refine pure_ (i := 3) (N := some 48) (v := ?_) (a' := ?_) #[true, true, true, true, false, false, false, false, false, false, false, false, false] rfl rfl (any_of HT_.out (by kernel_rfl)) (fun _ _ _ h => h) (Or.inl ⟨by rfl, ?_⟩) ?_ ?_
                            rotate_left
                            · intro w'
                              go_simp
                              with_reducible rfl
                            rotate_left
                            · simp only [Act.put, List.setIfInBounds_toArray, List.set_cons_zero, List.set_cons_succ, i64_w, i32_w]
                              rfl
                            refine pure_ (i := 4) (N := some 49) (v := ?_) (a' := ?_) #[true, true, true, true, true, false, false, false, false, false, false, false, false] rfl rfl (any_of HT_.out (by kernel_rfl)) (fun _ _ _ h => h) (Or.inl ⟨by rfl, ?_⟩) ?_ ?_
                            rotate_left
                            · intro w'
                              go_simp
                              with_reducible rfl
                            rotate_left
                            · simp only [Act.put, List.setIfInBounds_toArray, List.set_cons_zero, List.set_cons_succ, i64_w, i32_w]
                              rfl
                            refine pure_ (i := 5) (N := some 50) (v := ?_) (a' := ?_) #[true, true, true, true, true, true, false, false, false, false, false, false, false] rfl rfl (any_of HT_.out (by kernel_rfl)) (fun _ _ _ h => h) (Or.inl ⟨by rfl, ?_⟩) ?_ ?_
                            rotate_left
                            · intro w'
                              go_simp
                              with_reducible rfl
                            rotate_left
                            · simp only [Act.put, List.setIfInBounds_toArray, List.set_cons_zero, List.set_cons_succ, i64_w, i32_w]
                              rfl
                            refine pure_ (i := 6) (N := some 51) (v := ?_) (a' := ?_) #[true, true, true, true, true, true, true, false, false, false, false, false, false] rfl rfl (any_of HT_.out (by kernel_rfl)) (fun _ _ _ h => h) (Or.inl ⟨by rfl, ?_⟩) ?_ ?_
                            rotate_left
                            · intro w'
                              go_simp
                              with_reducible rfl
                            rotate_left
                            · simp only [Act.put, List.setIfInBounds_toArray, List.set_cons_zero, List.set_cons_succ, i64_w, i32_w]
                              rfl
                            refine pure_ (i := 8) (N := some 53) (v := ?_) (a' := ?_) #[true, true, true, true, true, true, true, false, true, false, false, false, false] rfl rfl (any_of HT_.out (by kernel_rfl)) (fun _ _ _ h => h) (Or.inl ⟨by rfl, ?_⟩) ?_ ?_
                            rotate_left
                            · intro w'
                              go_simp
                              with_reducible rfl
                            rotate_left
                            · simp only [Act.put, List.setIfInBounds_toArray, List.set_cons_zero, List.set_cons_succ, i64_w, i32_w]
                              rfl
                            refine take_ (i := 7) (N := some 52) (v := ?_) (a' := ?_) #[true, true, true, true, true, true, true, true, true, false, false, false, false] rfl rfl (take_ofW HT_.out HW_.out (by kernel_rfl)) (fun _ _ _ h => h) (Or.inl ⟨by rfl, ?_⟩) hHeld ?_ ?_
                            rotate_left
                            · rintro w' ⟨s0, s1, s2⟩
                              go_simp
                              with_reducible rfl
                            rotate_left
                            · simp only [Act.put, List.setIfInBounds_toArray, List.set_cons_zero, List.set_cons_succ, i64_w, i32_w]
                              rfl
                            refine take_ (i := 9) (N := some 54) (v := ?_) (a' := ?_) #[true, true, true, true, true, true, true, true, true, true, false, false, false] rfl rfl (take_ofW HT_.out HW_.out (by kernel_rfl)) (fun _ _ _ h => h) (Or.inl ⟨by rfl, ?_⟩) hHeld ?_ ?_
                            rotate_left
                            · rintro w' ⟨s0, s1, s2⟩
                              go_simp
                              with_reducible rfl
                            rotate_left
                            · simp only [Act.put, List.setIfInBounds_toArray, List.set_cons_zero, List.set_cons_succ, i64_w, i32_w]
                              rfl
                            refine pure_ (i := 10) (N := some 55) (v := ?_) (a' := ?_) #[true, true, true, true, true, true, true, true, true, true, true, false, false] rfl rfl (any_of HT_.out (by kernel_rfl)) (fun _ _ _ h => h) (Or.inl ⟨by rfl, ?_⟩) ?_ ?_
                            rotate_left
                            · intro w'
                              go_simp
                              with_reducible rfl
                            rotate_left
                            · simp only [Act.put, List.setIfInBounds_toArray, List.set_cons_zero, List.set_cons_succ, i64_w, i32_w]
                              rfl
                            refine pure_ (i := 11) (N := some 56) (v := ?_) (a' := ?_) #[true, true, true, true, true, true, true, true, true, true, true, true, false] rfl rfl (any_of HT_.out (by kernel_rfl)) (fun _ _ _ h => h) (Or.inl ⟨by rfl, ?_⟩) ?_ ?_
                            rotate_left
                            · intro w'
                              go_simp
                              with_reducible rfl
                            rotate_left
                            · simp only [Act.put, List.setIfInBounds_toArray, List.set_cons_zero, List.set_cons_succ, i64_w, i32_w]
                              rfl
                            refine last_ (i := 12) (N := none) #[true, true, true, true, true, true, true, true, true, true, true, true, true] rfl rfl (one_of HT_.out (by kernel_rfl)) (by decide) (fun K hK => ?_)
                            refine skip_ (w1 := ?_) (by rfl) rfl ?_ ?_
                            rotate_left
                            · go_simp
                              rfl
                            refine hK.out _ _ ?_
                            clear hK K
                            refine done_ (done_of HT_.out (by kernel_rfl)) ?_
                            try go_wp2_with (first | ((with_reducible refine gate_callee (f := 17) rfl ?_); refine goesL_ (some 58) rfl rfl Try.func17 (by kernel_rfl) rfl #[.slice A0 l0.length c0] rfl (by (try simp only [List.map_toArray, List.map_cons, List.map_nil]); first | done | rfl | (simp only [List.length_drop, List.length_take]; rfl)) ?_; (with_reducible refine (fcs_Put.calls kj4 _ _ l0 t228 _ ?side1 ?side2 A21.out).mono ?_); (case side1 => exact Kd.C_below HR0.out (by repeat (first | (with_reducible first | exact HB.out | apply pA | apply pN | apply pD | refine pS ?_ GB16.out | refine pS ?_ GE216.out) | exact HB.out))); (case side2 => exact HC0.out); rintro e w39 ⟨v229, rfl, ho0, hb⟩; refine ⟨_, rfl, ?_⟩; have n0_ := Aside0.mk (Kd.R_elder' (by (with_reducible repeat (first | apply Kd.R_alloc | apply Kd.R_drewN | apply Kd.R_drew)); exact HQ38.out) (Kd.R_base ho0) hb); have n1_ := Aside0.mk (Kd.R_lower (Kd.R_new' ho0 (Kd.R_lt (by (with_reducible repeat (first | apply Kd.R_alloc | apply Kd.R_drewN | apply Kd.R_drew)); exact HQ38.out))) (below_size (by repeat (first | (with_reducible first | exact HB.out | apply pA | apply pN | apply pD | refine pS ?_ GB16.out | refine pS ?_ GE216.out) | exact HB.out)))); have n2_ := Aside0.mk (blk_below (g := gb216) (o := .cells #[.int .u8 a2_0, .int .u8 a2_1] 41 (0, 0)) (by (with_reducible repeat (first | refine qN ?_ _ | refine qD ?_ | refine qA ?_ _)); refine blk_far ?_ (by have h_ := Kd.R_ne HO223.out BK216.out (by decide); intro e_; exact h_ (by rw [e_]; rfl)) _; (with_reducible repeat (first | refine qN ?_ _ | refine qD ?_ | refine qA ?_ _)); exact BK216.out) hb); have n3_ := Aside0.mk (below_step (by repeat (first | (with_reducible first | exact HB.out | apply pA | apply pN | apply pD | refine pS ?_ GB16.out | refine pS ?_ GE216.out) | exact HB.out)) hb); clear HO223; clear BK216; clear HB; have HO223 := n0_; have HO230 := n1_; have BK216 := n2_; have HB := n3_; clear n0_ n1_ n2_ n3_; (try clear hb); (try clear hb2); (try clear hk); (try clear hi); (try clear ho0)) | ((with_reducible refine gate_callee (f := 17) rfl ?_); refine goesL_ (some 60) rfl rfl Try.func17 (by kernel_rfl) rfl #[.slice (some ⟨go16, 0, none⟩) y227.length co34] rfl (by (try simp only [List.map_toArray, List.map_cons, List.map_nil]); first | done | (rw [show y227.length = y221.length from (Kd.R_reads' HO223.out).1.symm] <;> rfl) | rfl | (simp only [List.length_drop, List.length_take]; rfl)) ?_; (with_reducible refine (fcs_Put.calls kj4 _ _ y227 t231 _ ?side1 ?side2 A22.out).mono ?_); (case side1 => repeat (first | exact (Kd.R_reads' HO223.out).2.2 | (with_reducible refine Kd.C_alloc ?_ _) | (with_reducible refine Kd.C_drewN ?_ _) | (with_reducible refine Kd.C_drew ?_))); (case side2 => rw [show y227.length = y221.length from (Kd.R_reads' HO223.out).1.symm]; exact (Kd.R_reads' HO223.out).2.1); rintro e w40 ⟨v232, rfl, ho0, hb⟩; refine ⟨_, rfl, ?_⟩; have n0_ := Aside0.mk (Kd.R_elder' (by (with_reducible repeat (first | apply Kd.R_alloc | apply Kd.R_drewN | apply Kd.R_drew)); exact HO223.out) (Kd.R_base ho0) hb); have n1_ := Aside0.mk (Kd.R_elder' (by (with_reducible repeat (first | apply Kd.R_alloc | apply Kd.R_drewN | apply Kd.R_drew)); exact HO230.out) (Kd.R_base ho0) hb); have n2_ := Aside0.mk (Kd.R_lower (Kd.R_new' (Kd.R_new' ho0 (Kd.R_lt (by (with_reducible repeat (first | apply Kd.R_alloc | apply Kd.R_drewN | apply Kd.R_drew)); exact HO223.out))) (Kd.R_lt (by (with_reducible repeat (first | apply Kd.R_alloc | apply Kd.R_drewN | apply Kd.R_drew)); exact HO230.out))) (below_size (by repeat (first | (with_reducible first | exact HB.out | apply pA | apply pN | apply pD | refine pS ?_ GE216.out) | exact HB.out)))); have n3_ := Aside0.mk (blk_below (g := gb216) (o := .cells #[.int .u8 a2_0, .int .u8 a2_1] 41 (0, 0)) (by (with_reducible repeat (first | refine qN ?_ _ | refine qD ?_ | refine qA ?_ _)); exact BK216.out) hb); have n4_ := Aside0.mk (below_step (by repeat (first | (with_reducible first | exact HB.out | apply pA | apply pN | apply pD | refine pS ?_ GE216.out) | exact HB.out)) hb); clear HO223; clear HO230; clear BK216; clear HB; have HO223 := n0_; have HO230 := n1_; have HO233 := n2_; have BK216 := n3_; have HB := n4_; clear n0_ n1_ n2_ n3_ n4_; (try clear hb); (try clear hb2); (try clear hk); (try clear hi); (try clear ho0)))
                            have n0_ := Aside0.mk (Kd.R_drew HO223.out)
                            have n1_ := Aside0.mk (Kd.R_drew HO230.out)
                            have n2_ := Aside0.mk (Kd.R_drew HO233.out)
                            have n3_ := Aside0.mk (qD BK216.out)
                            have n4_ := Aside0.mk (pD HB.out)
                            clear HO223
                            clear HO230
                            clear HO233
                            clear BK216
                            clear HB
                            have HO223 := n0_
                            have HO230 := n1_
                            have HO233 := n2_
                            have BK216 := n3_
                            have HB := n4_
                            clear n0_ n1_ n2_ n3_ n4_
                            obtain ⟨Ao42, co42, eo42⟩ := Kd.R_slice HO230.out
                            (first | subst eo42 | (injection eo42 with f1_ f2_ f3_; have f4_ := f1_.symm; have f5_ := f3_.symm; clear f1_ f2_ f3_; subst f4_; subst f5_))
                            obtain ⟨Ao43, co43, eo43⟩ := Kd.R_slice HO233.out
                            (first | subst eo43 | (injection eo43 with f1_ f2_ f3_; have f4_ := f1_.symm; have f5_ := f3_.symm; clear f1_ f2_ f3_; subst f4_; subst f5_))
                            have q44 : ((l0.length : Int) : Int) ≤ ((t228.length : Int) : Int) := of_decide_eq_true (by first | (with_reducible assumption) | assumption)
                            obtain ⟨i044, hi044, _, hsz44, _⟩ := info_parts info5
                            have hroom44 : t228.length ≤ co42 := (Kd.R_reads' HO230.out).2.1
                            have hC44 : Kd.C (Kd.int .u8) _ Ao42 t228.length t228 := (Kd.R_reads' HO230.out).2.2
                            have q044 : (0 : Int) ≤ ((l0.length : Int) : Int) := of_decide_eq_true (by first | (with_reducible assumption) | assumption)
                            have hcut44 := cut_from (P := Try.prog) 23 5 .i64 Try.underlying23 hi044 1 hsz44 Ao42 t228.length co42 (l0.length : Int) q044 q44
                            have hr44 := Kd.C_drop (m := ((l0.length : Int) : Int).toNat) (c := co42) hC44 (by omega) hroom44
                            obtain ⟨A44, hA44⟩ : ∃ A1, A1 = (if co42 = ((l0.length : Int) : Int).toNat then Ao42 else (Ao42 : Option Addr).map (·.add (((l0.length : Int) : Int).toNat * 1))) := ⟨_, rfl⟩
                            obtain ⟨c44, hc44⟩ : ∃ c1, c1 = co42 - ((l0.length : Int) : Int).toNat := ⟨_, rfl⟩
                            have hy44 : y234.length = t228.length - ((l0.length : Int) : Int).toNat := (by rw [Ny234.out, List.length_drop] <;> omega)
                            rw [show (t228).drop ((l0.length : Int) : Int).toNat = y234 from Ny234.out.symm] at hr44
                            replace hr44 : Kd.C (Kd.int .u8) _ A44 y234.length y234 := (by rw [hA44]; exact hr44)
                            rw [← hy44, ← hA44, ← hc44] at hcut44
                            have HR237 := Aside0.mk hr44
                            have HC237 := Aside0.mk (show y234.length ≤ c44 from by rw [hy44, hc44]; exact Nat.sub_le_sub_right hroom44 _)
                            clear hr44 hC44 hroom44 hi044 hsz44 hc44
                            have KY44 := Aside0.mk hy44
                            have KA44 := Aside0.mk hA44
                            clear hy44 hA44
                            have KL44 := Aside0.mk (show ((l0.length : Int) : Int).toNat ≤ t228.length from by omega)
                            replace q44 := eq_true q44
                            have q45 : ((l0.length : Int) : Int) ≤ ((t231.length : Int) : Int) := of_decide_eq_true (by first | (with_reducible assumption) | assumption)
                            obtain ⟨i045, hi045, _, hsz45, _⟩ := info_parts info5
                            have hroom45 : t231.length ≤ co43 := (Kd.R_reads' HO233.out).2.1
                            have hC45 : Kd.C (Kd.int .u8) _ Ao43 t231.length t231 := (Kd.R_reads' HO233.out).2.2
                            have q045 : (0 : Int) ≤ ((l0.length : Int) : Int) := of_decide_eq_true (by first | (with_reducible assumption) | assumption)
                            have hcut45 := cut_from (P := Try.prog) 23 5 .i64 Try.underlying23 hi045 1 hsz45 Ao43 t231.length co43 (l0.length : Int) q045 q45
                            have hr45 := Kd.C_drop (m := ((l0.length : Int) : Int).toNat) (c := co43) hC45 (by omega) hroom45
                            obtain ⟨A45, hA45⟩ : ∃ A1, A1 = (if co43 = ((l0.length : Int) : Int).toNat then Ao43 else (Ao43 : Option Addr).map (·.add (((l0.length : Int) : Int).toNat * 1))) := ⟨_, rfl⟩
                            obtain ⟨c45, hc45⟩ : ∃ c1, c1 = co43 - ((l0.length : Int) : Int).toNat := ⟨_, rfl⟩
                            have hy45 : y238.length = t231.length - ((l0.length : Int) : Int).toNat := (by rw [Ny238.out, List.length_drop] <;> omega)
                            rw [show (t231).drop ((l0.length : Int) : Int).toNat = y238 from Ny238.out.symm] at hr45
                            replace hr45 : Kd.C (Kd.int .u8) _ A45 y238.length y238 := (by rw [hA45]; exact hr45)
                            rw [← hy45, ← hA45, ← hc45] at hcut45
                            have HR241 := Aside0.mk hr45
                            have HC241 := Aside0.mk (show y238.length ≤ c45 from by rw [hy45, hc45]; exact Nat.sub_le_sub_right hroom45 _)
                            clear hr45 hC45 hroom45 hi045 hsz45 hc45
                            have KY45 := Aside0.mk hy45
                            have KA45 := Aside0.mk hA45
                            clear hy45 hA45
                            have KL45 := Aside0.mk (show ((l0.length : Int) : Int).toNat ≤ t231.length from by omega)
                            replace q45 := eq_true q45
                            refine start_ (n := 21) (S := fun w' => True) (ds := []) #[false, false, false, false, false, false, false, false, false, false, false, false, false, false, false, false, false, false, false, false, false] (by kernel_rfl) rfl rfl trivial (fun hHeld => ?_); refine with_tabW portreevelaw01_FcsApart.tab9 portreevelaw01_FcsApart.bits9 (fun HT_ HW_ => ?_)
                            generalize w40.drew = w41 at HO223 HO230 HO233 BK216 HB HR237 HR241 hHeld ⊢
                            refine pure_ (i := 0) (N := some 61) (v := ?_) (a' := ?_) #[true, false, false, false, false, false, false, false, false, false, false, false, false, false, false, false, false, false, false, false, false] rfl rfl (any_of HT_.out (by kernel_rfl)) (fun _ _ _ h => h) (Or.inl ⟨by rfl, ?_⟩) ?_ ?_
                            rotate_left
                            · intro w'
                              go_simp
                              with_reducible rfl
                            rotate_left
                            · simp only [Act.put, List.setIfInBounds_toArray, List.set_cons_zero, List.set_cons_succ, i64_w, i32_w]
                              rfl
                            refine pure_ (i := 1) (N := some 62) (v := ?_) (a' := ?_) #[true, true, false, false, false, false, false, false, false, false, false, false, false, false, false, false, false, false, false, false, false] rfl rfl (any_of HT_.out (by kernel_rfl)) (fun _ _ _ h => h) (Or.inl ⟨by rfl, ?_⟩) ?_ ?_
                            rotate_left
                            · intro w'
                              go_simp
                              with_reducible rfl
                            rotate_left
                            · simp only [Act.put, List.setIfInBounds_toArray, List.set_cons_zero, List.set_cons_succ, i64_w, i32_w]
                              rfl
                            refine pure_ (i := 2) (N := some 63) (v := ?_) (a' := ?_) #[true, true, true, false, false, false, false, false, false, false, false, false, false, false, false, false, false, false, false, false, false] rfl rfl (any_of HT_.out (by kernel_rfl)) (fun _ _ _ h => h) (Or.inl ⟨by rfl, ?_⟩) ?_ ?_
                            rotate_left
                            · intro w'
                              go_simp
                              with_reducible rfl
                            rotate_left
                            · simp only [Act.put, List.setIfInBounds_toArray, List.set_cons_zero, List.set_cons_succ, i64_w, i32_w]
                              rfl
                            refine pure_ (i := 3) (N := some 64) (v := ?_) (a' := ?_) #[true, true, true, true, false, false, false, false, false, false, false, false, false, false, false, false, false, false, false, false, false] rfl rfl (any_of HT_.out (by kernel_rfl)) (fun _ _ _ h => h) (Or.inl ⟨by rfl, ?_⟩) ?_ ?_
                            rotate_left
                            · intro w'
                              go_simp
                              with_reducible rfl
                            rotate_left
                            · simp only [Act.put, List.setIfInBounds_toArray, List.set_cons_zero, List.set_cons_succ, i64_w, i32_w]
                              rfl
                            refine pure_ (i := 4) (N := some 65) (v := ?_) (a' := ?_) #[true, true, true, true, true, false, false, false, false, false, false, false, false, false, false, false, false, false, false, false, false] rfl rfl (any_of HT_.out (by kernel_rfl)) (fun _ _ _ h => h) (Or.inl ⟨by rfl, ?_⟩) ?_ ?_
                            rotate_left
                            · intro w'
                              go_simp
                              with_reducible rfl
                            rotate_left
                            · simp only [Act.put, List.setIfInBounds_toArray, List.set_cons_zero, List.set_cons_succ, i64_w, i32_w]
                              rfl
                            refine pure_ (i := 5) (N := some 66) (v := ?_) (a' := ?_) #[true, true, true, true, true, true, false, false, false, false, false, false, false, false, false, false, false, false, false, false, false] rfl rfl (any_of HT_.out (by kernel_rfl)) (fun _ _ _ h => h) (Or.inl ⟨by rfl, ?_⟩) ?_ ?_
                            rotate_left
                            · intro w'
                              go_simp
                              with_reducible rfl
                            rotate_left
                            · simp only [Act.put, List.setIfInBounds_toArray, List.set_cons_zero, List.set_cons_succ, i64_w, i32_w]
                              rfl
                            refine pure_ (i := 6) (N := some 67) (v := ?_) (a' := ?_) #[true, true, true, true, true, true, true, false, false, false, false, false, false, false, false, false, false, false, false, false, false] rfl rfl (any_of HT_.out (by kernel_rfl)) (fun _ _ _ h => h) (Or.inl ⟨by rfl, ?_⟩) ?_ ?_
                            rotate_left
                            · intro w'
                              go_simp
                              with_reducible rfl
                            rotate_left
                            · simp only [Act.put, List.setIfInBounds_toArray, List.set_cons_zero, List.set_cons_succ, i64_w, i32_w]
                              rfl
                            refine pure_ (i := 7) (N := some 68) (v := ?_) (a' := ?_) #[true, true, true, true, true, true, true, true, false, false, false, false, false, false, false, false, false, false, false, false, false] rfl rfl (any_of HT_.out (by kernel_rfl)) (fun _ _ _ h => h) (Or.inl ⟨by rfl, ?_⟩) ?_ ?_
                            rotate_left
                            · intro w'
                              go_simp
                              with_reducible rfl
                            rotate_left
                            · simp only [Act.put, List.setIfInBounds_toArray, List.set_cons_zero, List.set_cons_succ, i64_w, i32_w]
                              rfl
                            refine pure_ (i := 8) (N := some 69) (v := ?_) (a' := ?_) #[true, true, true, true, true, true, true, true, true, false, false, false, false, false, false, false, false, false, false, false, false] rfl rfl (any_of HT_.out (by kernel_rfl)) (fun _ _ _ h => h) (Or.inl ⟨by rfl, ?_⟩) ?_ ?_
                            rotate_left
                            · intro w'
                              go_simp
                              with_reducible rfl
                            rotate_left
                            · simp only [Act.put, List.setIfInBounds_toArray, List.set_cons_zero, List.set_cons_succ, i64_w, i32_w]
                              rfl
                            refine pure_ (i := 9) (N := some 70) (v := ?_) (a' := ?_) #[true, true, true, true, true, true, true, true, true, true, false, false, false, false, false, false, false, false, false, false, false] rfl rfl (any_of HT_.out (by kernel_rfl)) (fun _ _ _ h => h) (Or.inl ⟨by rfl, ?_⟩) ?_ ?_
                            rotate_left
                            · intro w'
                              go_simp
                              with_reducible rfl
                            rotate_left
                            · simp only [Act.put, List.setIfInBounds_toArray, List.set_cons_zero, List.set_cons_succ, i64_w, i32_w]
                              rfl
                            refine pure_ (i := 10) (N := some 71) (v := ?_) (a' := ?_) #[true, true, true, true, true, true, true, true, true, true, true, false, false, false, false, false, false, false, false, false, false] rfl rfl (any_of HT_.out (by kernel_rfl)) (fun _ _ _ h => h) (Or.inl ⟨by rfl, ?_⟩) ?_ ?_
                            rotate_left
                            · intro w'
                              go_simp
                              with_reducible rfl
                            rotate_left
                            · simp only [Act.put, List.setIfInBounds_toArray, List.set_cons_zero, List.set_cons_succ, i64_w, i32_w]
                              rfl
                            refine pure_ (i := 11) (N := some 72) (v := ?_) (a' := ?_) #[true, true, true, true, true, true, true, true, true, true, true, true, false, false, false, false, false, false, false, false, false] rfl rfl (any_of HT_.out (by kernel_rfl)) (fun _ _ _ h => h) (Or.inl ⟨by rfl, ?_⟩) ?_ ?_
                            rotate_left
                            · intro w'
                              go_simp
                              with_reducible rfl
                            rotate_left
                            · simp only [Act.put, List.setIfInBounds_toArray, List.set_cons_zero, List.set_cons_succ, i64_w, i32_w]
                              rfl
                            refine pure_ (i := 12) (N := some 73) (v := ?_) (a' := ?_) #[true, true, true, true, true, true, true, true, true, true, true, true, true, false, false, false, false, false, false, false, false] rfl rfl (any_of HT_.out (by kernel_rfl)) (fun _ _ _ h => h) (Or.inl ⟨by rfl, ?_⟩) ?_ ?_
                            rotate_left
                            · intro w'
                              go_simp
                              with_reducible rfl
                            rotate_left
                            · simp only [Act.put, List.setIfInBounds_toArray, List.set_cons_zero, List.set_cons_succ, i64_w, i32_w]
                              rfl
                            refine pure_ (i := 13) (N := some 74) (v := ?_) (a' := ?_) #[true, true, true, true, true, true, true, true, true, true, true, true, true, true, false, false, false, false, false, false, false] rfl rfl (any_of HT_.out (by kernel_rfl)) (fun _ _ _ h => h) (Or.inl ⟨by rfl, ?_⟩) ?_ ?_
                            rotate_left
                            · intro w'
                              go_simp
                              with_reducible rfl
                            rotate_left
                            · simp only [Act.put, List.setIfInBounds_toArray, List.set_cons_zero, List.set_cons_succ, i64_w, i32_w]
                              rfl
                            refine pure_ (i := 14) (N := some 75) (v := ?_) (a' := ?_) #[true, true, true, true, true, true, true, true, true, true, true, true, true, true, true, false, false, false, false, false, false] rfl rfl (any_of HT_.out (by kernel_rfl)) (fun _ _ _ h => h) (Or.inl ⟨by rfl, ?_⟩) ?_ ?_
                            rotate_left
                            · intro w'
                              go_simp
                              with_reducible rfl
                            rotate_left
                            · simp only [Act.put, List.setIfInBounds_toArray, List.set_cons_zero, List.set_cons_succ, i64_w, i32_w]
                              rfl
                            refine pure_ (i := 15) (N := some 76) (v := ?_) (a' := ?_) #[true, true, true, true, true, true, true, true, true, true, true, true, true, true, true, true, false, false, false, false, false] rfl rfl (any_of HT_.out (by kernel_rfl)) (fun _ _ _ h => h) (Or.inl ⟨by rfl, ?_⟩) ?_ ?_
                            rotate_left
                            · intro w'
                              go_simp
                              with_reducible rfl
                            rotate_left
                            · simp only [Act.put, List.setIfInBounds_toArray, List.set_cons_zero, List.set_cons_succ, i64_w, i32_w]
                              rfl
                            refine pure_ (i := 16) (N := some 77) (v := ?_) (a' := ?_) #[true, true, true, true, true, true, true, true, true, true, true, true, true, true, true, true, true, false, false, false, false] rfl rfl (any_of HT_.out (by kernel_rfl)) (fun _ _ _ h => h) (Or.inl ⟨by rfl, ?_⟩) ?_ ?_
                            rotate_left
                            · intro w'
                              go_simp
                              with_reducible rfl
                            rotate_left
                            · simp only [Act.put, List.setIfInBounds_toArray, List.set_cons_zero, List.set_cons_succ, i64_w, i32_w]
                              rfl
                            refine one_ (i := 17) (N := some 78) #[true, true, true, true, true, true, true, true, true, true, true, true, true, true, true, true, true, true, false, false, false] rfl rfl (one_of HT_.out (by kernel_rfl)) (by decide) (fun K hK => ?_)
                            refine goes_ Try.func16 (by kernel_rfl) rfl #[.slice A44 y234.length c44, .slice A45 y238.length c45] (by rfl) rfl rfl (by (try simp only [List.map_toArray, List.map_cons, List.map_nil]); first | done | rfl | (simp only [List.length_drop, List.length_take]; rfl)) ?_
                            with_reducible refine (portreeveref01_Row.calls kj4 _ _ y234 _ _ y238 t242 _ ?side1 ?side2 ?side3 ?side4 A29.out).mono ?_
                            (case side1 => repeat (first | exact (by repeat (first | (with_reducible exact HR237.out) | (with_reducible refine Kd.C_alloc ?_ _) | (with_reducible refine Kd.C_drewN ?_ _) | (with_reducible refine Kd.C_drew ?_) | exact HR237.out)) | (with_reducible refine Kd.C_alloc ?_ _) | (with_reducible refine Kd.C_drewN ?_ _) | (with_reducible refine Kd.C_drew ?_)))
                            (case side2 => exact HC237.out)
                            (case side3 => repeat (first | exact (by repeat (first | (with_reducible exact HR241.out) | (with_reducible refine Kd.C_alloc ?_ _) | (with_reducible refine Kd.C_drewN ?_ _) | (with_reducible refine Kd.C_drew ?_) | exact HR241.out)) | (with_reducible refine Kd.C_alloc ?_ _) | (with_reducible refine Kd.C_drewN ?_ _) | (with_reducible refine Kd.C_drew ?_)))
                            (case side4 => exact HC241.out)
                            rintro e w' ⟨rfl, ⟨nd, rfl⟩⟩
                            refine ⟨_, rfl, ?_⟩
                            refine hK.out _ _ trivial (fun hHeld => ?_)
                            clear hK K
                            refine norm_ (a' := ?_) ?_ ?_
                            rotate_left
                            · show Act.put _ (some 78) _ = _
                              simp only [Act.put, List.setIfInBounds_toArray, List.set_cons_zero, List.set_cons_succ, i64_w, i32_w]
                              rfl
                            refine pure_ (i := 18) (N := some 79) (v := ?_) (a' := ?_) #[true, true, true, true, true, true, true, true, true, true, true, true, true, true, true, true, true, true, true, false, false] rfl rfl (any_of HT_.out (by kernel_rfl)) (fun _ _ _ h => h) (Or.inl ⟨by rfl, ?_⟩) ?_ ?_
                            rotate_left
                            · intro w'
                              go_simp
                              with_reducible rfl
                            rotate_left
                            · simp only [Act.put, List.setIfInBounds_toArray, List.set_cons_zero, List.set_cons_succ, i64_w, i32_w]
                              rfl
                            refine pure_ (i := 19) (N := some 80) (v := ?_) (a' := ?_) #[true, true, true, true, true, true, true, true, true, true, true, true, true, true, true, true, true, true, true, true, false] rfl rfl (any_of HT_.out (by kernel_rfl)) (fun _ _ _ h => h) (Or.inl ⟨by rfl, ?_⟩) ?_ ?_
                            rotate_left
                            · intro w'
                              go_simp
                              with_reducible rfl
                            rotate_left
                            · simp only [Act.put, List.setIfInBounds_toArray, List.set_cons_zero, List.set_cons_succ, i64_w, i32_w]
                              rfl
                            refine pure_ (i := 20) (N := some 6) (v := ?_) (a' := ?_) #[true, true, true, true, true, true, true, true, true, true, true, true, true, true, true, true, true, true, true, true, true] rfl rfl (any_of HT_.out (by kernel_rfl)) (fun _ _ _ h => h) (Or.inl ⟨by rfl, ?_⟩) ?_ ?_
                            rotate_left
                            · intro w'
                              go_simp
                              with_reducible rfl
                            rotate_left
                            · simp only [Act.put, List.setIfInBounds_toArray, List.set_cons_zero, List.set_cons_succ, i64_w, i32_w]
                              rfl
                            refine done_ (done_of HT_.out (by kernel_rfl)) ?_
                            try go_wp2
                            go_ret
                            exact ⟨by first | rfl | (simp [errW_none, errW_some] <;> rfl) | (simp only [← hji17]; first | rfl | (simp [errW_none, errW_some] <;> rfl)) | (simp [*, errW_none, errW_some] <;> rfl), by repeat (first | (with_reducible first | exact HB.out | apply pA | apply pN | apply pD | refine pS ?_ GE216.out) | exact HB.out)⟩
                          · rw [if_neg c28] at H
                            exact absurd H (by simp)
                        · rw [if_neg c26] at H
                          exact absurd H (by simp)
                      · rw [if_neg c25] at H
                        exact absurd H (by simp)
                    · rw [if_neg c24] at H
                      have c24b0 : ((t228.length : Int) == (t231.length : Int)) = false := beq_eq_false_iff_ne.mpr c24
                      have c24b1 : ((t228.length : Int) != (t231.length : Int)) = true := bne_iff_ne.mpr c24
                      have c24b2 : (t228.length == t231.length) = false := by first | simpa using c24 | (simp at c24 ⊢; omega)
                      exact absurd ((Option.some.inj H).trans hlaw_.out) (by decide)
                  · replace c23 := Bool.eq_false_iff.mpr c23
                    subst c23
                    have H1 : (some false) = some r := by rw [if_neg (show ¬ (false = true) by decide)] at H; exact H
                    clear H
                    have H := H1
                    clear H1
                    exact absurd ((Option.some.inj H).trans hlaw_.out) (by decide)
                · rw [if_neg c19] at H
                  exact absurd H (by simp)
              · rw [if_neg c18] at H
                exact absurd H (by simp)
            · rw [if_neg c15] at H
              exact absurd H (by simp)
          · rw [if_neg c14] at H
            exact absurd H (by simp)
        · rw [if_neg c13] at H
          exact absurd H (by simp)

end Go.Proofs.Ytfnmlhcpolfjaaa.Q

-- written by this session's own program (wip/tools/myprint.py), over the kit's print
import Derived.Test.YtpbkdphilcodmaaQx0
import Derived.Test.YtpbkdphilcodmaaQx2
namespace Go.Proofs.Ytpbkdphilcodmaa.Q
open Go.RowKit Go.Proofs.YtpbkdphilcodmaaW.PrintWords Go.Proofs.YtpbkdphilcodmaaW.PrintLast Go.Proofs.YtpbkdphilcodmaaW.PrintMore
open Go.Proofs.YtpbkdphilcodmaaV
attribute [local go_sem] max2_int min2_int max_two min_two max_three min_three max_four min_four   -- for this text's walks alone
set_option linter.unusedVariables false
set_option linter.unusedSimpArgs false

/-! ### md5_Pad: function 31 -/
mutual
def md5_Pad.l0 : Nat → List Int → List Int → Option (List Int)
  | 0, _, _ => none
  | k + 1, x0, x3 => if ((x3.length : Int) % 64) = 56 then (md5_Pad.l1 k x3 (IntKind.u64.wrap ((IntKind.u64.wrap ((x0.length : Int))) * 8)) 0) else (if x3.length < 140737488355328 then (md5_Pad.l0 k x0 (x3 ++ [0])) else (none))
def md5_Pad.l1 : Nat → List Int → Int → Int → Option (List Int)
  | 0, _, _, _ => none
  | k + 1, x3, x4, x21 => if x21 < 8 then (if 0 ≤ (wrap64 (8 * x21)) then (if x3.length < 140737488355328 then (md5_Pad.l1 k (x3 ++ [(shr .u64 x4 (wrap64 (8 * x21))) % 256]) x4 (wrap64 (x21 + 1))) else (none)) else (none)) else (some x3)
end
def md5_Pad.f (k : Nat) (l0 : List Int) : Option (List Int) := (slices_Clone_byte_byte.f l0).bind fun t108 => (if t108.length < 140737488355328 then (md5_Pad.l0 k l0 (t108 ++ [128])) else (none))
theorem md5_Pad.mono_l : ∀ k, (∀ y0 y1, LeO (md5_Pad.l0 k y0 y1) (md5_Pad.l0 (k + 1) y0 y1)) ∧ (∀ y0 y1 y2, LeO (md5_Pad.l1 k y0 y1 y2) (md5_Pad.l1 (k + 1) y0 y1 y2))
  | 0 => ⟨fun _ _ r h => by simp [md5_Pad.l0] at h, fun _ _ _ r h => by simp [md5_Pad.l1] at h⟩
  | k + 1 => by
    obtain ⟨ih0, ih1⟩ := md5_Pad.mono_l k
    refine ⟨?_, ?_⟩
    · intro y0 y1
      unfold md5_Pad.l0
      repeat' first
      | (with_reducible exact ih0 _ _)
      | (with_reducible exact ih1 _ _ _)
      | (with_reducible exact LeO.refl _)
      | (with_reducible exact LeO.none _)
      | (with_reducible refine LeO.ite ?_ ?_)
      | (with_reducible refine LeO.bind ?_ (fun _ => ?_))
      | exact ih0 _ _
      | exact ih1 _ _ _
      | exact LeO.none _
      | refine LeO.ite ?_ ?_
      | refine LeO.bind ?_ (fun _ => ?_)
    · intro y0 y1 y2
      unfold md5_Pad.l1
      repeat' first
      | (with_reducible exact ih0 _ _)
      | (with_reducible exact ih1 _ _ _)
      | (with_reducible exact LeO.refl _)
      | (with_reducible exact LeO.none _)
      | (with_reducible refine LeO.ite ?_ ?_)
      | (with_reducible refine LeO.bind ?_ (fun _ => ?_))
      | exact ih0 _ _
      | exact ih1 _ _ _
      | exact LeO.none _
      | refine LeO.ite ?_ ?_
      | refine LeO.bind ?_ (fun _ => ?_)
theorem md5_Pad.mono : ∀ a0 k, LeO (md5_Pad.f k a0) (md5_Pad.f (k + 1) a0) := by
  intro a0 k
  obtain ⟨ih0, ih1⟩ := md5_Pad.mono_l k
  unfold md5_Pad.f
  repeat' first
      | (with_reducible exact ih0 _ _)
      | (with_reducible exact ih1 _ _ _)
      | (with_reducible exact LeO.refl _)
      | (with_reducible exact LeO.none _)
      | (with_reducible refine LeO.ite ?_ ?_)
      | (with_reducible refine LeO.bind ?_ (fun _ => ?_))
      | exact ih0 _ _
      | exact ih1 _ _ _
      | exact LeO.none _
      | refine LeO.ite ?_ ?_
      | refine LeO.bind ?_ (fun _ => ?_)
set_option maxHeartbeats 8000000 in
set_option maxRecDepth 100000 in
theorem md5_Pad.calls (k : Nat) (A0 : Option Addr) (c0 : Nat) (l0 : List Int) (r : List Int) (w : World) (hr0 : Kd.C (Kd.int .u8) w A0 l0.length l0) (hc0 : l0.length ≤ c0) (h : md5_Pad.f k l0 = some r) :
    Calls Try.prog 31 #[.slice A0 l0.length c0] w fun e w' => ∃ v0_ : Value, e = .returned (v0_) ∧ Kd.R (Kd.int .u8) 5 w' w.heap.size (fun _ => True) v0_ r ∧ Below w.heap.size w w' := by
  have HR0 := Aside0.mk hr0
  have HC0 := Aside0.mk hc0
  clear hr0 hc0
  have HB := Aside0.mk (Below.refl w.heap.size w)
  have H : ((slices_Clone_byte_byte.f l0).bind fun t108 => (if t108.length < 140737488355328 then (md5_Pad.l0 k l0 (t108 ++ [128])) else (none))) = some r := h
  clear h
  replace H := Option.bind_eq_some_iff.mp H
  obtain ⟨t108, A20, H⟩ := H
  replace H : (if t108.length < 140737488355328 then (md5_Pad.l0 k l0 (t108 ++ [128])) else (none)) = some r := H
  have A2 := Aside0.mk A20
  clear A20
  by_cases c3 : t108.length < 140737488355328
  · rw [if_pos c3] at H
    have LMc3 := Aside0.mk c3
    clear c3
    obtain ⟨y111, hy111⟩ : ∃ y_ : List Int, y_ = (t108 ++ [128]) := ⟨_, rfl⟩
    replace H : (md5_Pad.l0 k l0 y111) = some r := by first | (rw [hy111]; with_reducible exact H) | (have H2_ := (Option.bind_some _ _).symm.trans H; rw [hy111]; with_reducible exact H2_) | (have H2_ := (Option.bind_some _ _).symm.trans H; with_reducible exact H2_) | with_reducible exact H | (rw [hy111]; exact H) | exact H
    have Ny111 := Aside0.mk hy111
    clear hy111
    have H' := Aside0.mk H
    clear H
    go_enter Try.func31, Try.ntmps31
    go_wp2_with (first | ((with_reducible refine gate_callee (f := 37) rfl ?_); refine goesL_ (some 7) rfl rfl Try.func37 (by kernel_rfl) rfl #[.slice A0 l0.length c0] rfl (by (try simp only [List.map_toArray, List.map_cons, List.map_nil]); first | done | rfl | (simp only [List.length_drop, List.length_take]; rfl)) ?_; (with_reducible refine (slices_Clone_byte_byte.calls _ _ l0 t108 _ ?side1 ?side2 A2.out).mono ?_); (case side1 => repeat (first | exact HR0.out | (with_reducible refine Kd.C_alloc ?_ _) | (with_reducible refine Kd.C_drewN ?_ _) | (with_reducible refine Kd.C_drew ?_))); (case side2 => exact HC0.out); rintro e w4 ⟨v109, rfl, ho0, hb⟩; refine ⟨_, rfl, ?_⟩; have n0_ := Aside0.mk (Kd.R_lower ho0 (below_size (by repeat (first | (with_reducible first | exact HB.out | apply pA | apply pN | apply pD) | exact HB.out)))); have n1_ := Aside0.mk (below_step (by repeat (first | (with_reducible first | exact HB.out | apply pA | apply pN | apply pD) | exact HB.out)) hb); clear HB; have HO110 := n0_; have HB := n1_; clear n0_ n1_; (try clear hb); (try clear hb2); (try clear hk); (try clear hi); (try clear ho0)) | ((with_reducible refine gate_builtin (b := .append) (xs := #[.tmp 7, .tmp 8]) rfl ?_); at_builtin; refine Kd.R_append (Kd.int .u8) (w0 := w) w.heap.size rfl (.tmp 7) (.tmp 8) 26 5 (.int .u8 0) 1 rfl Try.underlying26 info5 rfl (by decide) (by omega) v109 t108 128 [.int .u8 128] (fun _ => True) (fun _ => False) rfl rfl ?aP (fun _ hk => hk.elim) ?aF ?aO ?aB ?aS ?aL ?_; (case aP => exact rfl); (case aB => exact (by repeat (first | (with_reducible first | exact HB.out | apply pA | apply pN | apply pD) | exact HB.out))); (case aF => exact (fun _ _ => trivial)); (case aO => exact (by (with_reducible repeat (first | apply Kd.R_alloc | apply Kd.R_drewN | apply Kd.R_drew)); exact HO110.out)); (case aS => exact (below_size (by repeat (first | (with_reducible first | exact HB.out | apply pA | apply pN | apply pD) | exact HB.out)))); (case aL => have := LMc3.out; omega); intro v112 w5 ho hb hg hat; rw [← Ny111.out] at ho; have n0_ := Aside0.mk (hb); have n1_ := Aside0.mk (ho); clear HB; clear HO110; have HB := n0_; have HO113 := n1_; clear n0_ n1_; clear ho hb hg hat))
    go_loopg [3] k (fun kq v3 w' => ∃ (x3_1 : List Int), Aside0 (md5_Pad.l0 kq l0 x3_1 = some r) ∧ Aside0 (kq ≤ k) ∧ Aside0 (Kd.R (Kd.int .u8) 5 w' w.heap.size (fun _ => True) v3 x3_1) ∧ Aside0 (Below w.heap.size w w'))
    case atStart => exact ⟨(y111), H', ⟨Nat.le_refl _⟩, ⟨by (with_reducible repeat (first | apply Kd.R_alloc | apply Kd.R_drewN | apply Kd.R_drew)); exact HO113.out⟩, ⟨by repeat (first | (with_reducible first | exact HB.out | apply pA | apply pN | apply pD) | exact HB.out)⟩⟩
    case round =>
      clear H'
      try clear p2
      try clear c3
      obtain ⟨x3_1, HA, HK1, HO_3, HB⟩ := hrel
      cases gk with
      | zero => exact absurd HA.out (by simp [md5_Pad.l0])
      | succ k1 =>
        have H := HA.out
        clear HA
        simp only [md5_Pad.l0] at H
        by_cases c6 : ((x3_1.length : Int) % 64) = 56
        · rw [if_pos c6] at H
          have c6b0 : (((x3_1.length : Int) % 64) == 56) = true := beq_iff_eq.mpr c6
          have c6b1 : (((x3_1.length : Int) % 64) != 56) = false := bne_eq_false_iff_eq.mpr c6
          clear c6
          have H' := Aside0.mk H
          clear H
          obtain ⟨Ao7, co7, eo7⟩ := Kd.R_slice HO_3.out
          subst eo7
          go_wp2
          go_loopg [3, 21] k1 (fun kq v3 v21 w' => ∃ (x3_2 : List Int) (x21_2 : Int), v21 = .int .i64 x21_2 ∧ Aside0 (md5_Pad.l1 kq x3_2 (IntKind.u64.wrap ((IntKind.u64.wrap ((l0.length : Int))) * 8)) x21_2 = some r) ∧ Aside0 (kq ≤ k1) ∧ Aside0 (Kd.R (Kd.int .u8) 5 w' w.heap.size (fun _ => True) v3 x3_2) ∧ Aside0 (Below w.heap.size w w'))
          case atStart => exact ⟨(x3_1), (0), (by first | rfl | (simp; done) | (simp [*]; done)), H', ⟨Nat.le_refl _⟩, ⟨by (with_reducible repeat (first | apply Kd.R_alloc | apply Kd.R_drewN | apply Kd.R_drew)); exact HO_3.out⟩, ⟨by repeat (first | (with_reducible first | exact HB.out | apply pA | apply pN | apply pD) | exact HB.out)⟩⟩
          case round =>
            clear H'
            try clear p2
            try clear c3
            try clear c6
            try clear c6b0
            try clear c6b1
            try clear p2
            obtain ⟨x3_2, x21_2, rfl, HA, HK2, HO_3, HB⟩ := hrel
            cases gk with
            | zero => exact absurd HA.out (by simp [md5_Pad.l1])
            | succ k2 =>
              have H := HA.out
              clear HA
              simp only [md5_Pad.l1] at H
              by_cases c8 : x21_2 < 8
              · rw [if_pos c8] at H
                have c8b0 : decide (x21_2 < 8) = true := decide_eq_true c8
                clear c8
                obtain ⟨ji9, hji9⟩ : ∃ j_ : Int, (wrap64 (8 * x21_2)) = j_ := ⟨_, rfl⟩
                replace H : (if 0 ≤ (ji9) then (if x3_2.length < 140737488355328 then (md5_Pad.l1 k2 (x3_2 ++ [(shr .u64 (IntKind.u64.wrap ((IntKind.u64.wrap ((l0.length : Int))) * 8)) (ji9)) % 256]) (IntKind.u64.wrap ((IntKind.u64.wrap ((l0.length : Int))) * 8)) (wrap64 (x21_2 + 1))) else (none)) else (none)) = some r := by first | (rw [hji9] at H; exact H) | (simp only [hji9] at H ⊢; exact H)
                have hji9w : (IntKind.i64.wrap (8 * x21_2)) = ji9 := (i64_w _).trans hji9
                by_cases c10 : 0 ≤ (ji9)
                · rw [if_pos c10] at H
                  have c10b0 := eq_true c10
                  have c10b1 : decide (0 ≤ (ji9)) = true := decide_eq_true c10
                  clear c10
                  obtain ⟨ji11, hji11⟩ : ∃ j_ : Int, (shr .u64 (IntKind.u64.wrap ((IntKind.u64.wrap ((l0.length : Int))) * 8)) (ji9)) = j_ := ⟨_, rfl⟩
                  replace H : (if x3_2.length < 140737488355328 then (md5_Pad.l1 k2 (x3_2 ++ [(ji11) % 256]) (IntKind.u64.wrap ((IntKind.u64.wrap ((l0.length : Int))) * 8)) (wrap64 (x21_2 + 1))) else (none)) = some r := by first | (rw [hji11] at H; exact H) | (simp only [hji11] at H ⊢; exact H)
                  have hji11_ : ((IntKind.u64.wrap ((IntKind.u64.wrap ((l0.length : Int))) * 8)) / 2 ^ min (ji9).toNat 64) = ji11 := hji11
                  have hji11z : (ji9) ≤ 64 → ((IntKind.u64.wrap ((IntKind.u64.wrap ((l0.length : Int))) * 8)) / 2 ^ (ji9).toNat) = ji11 := shr_small hji11
                  by_cases c12 : x3_2.length < 140737488355328
                  · rw [if_pos c12] at H
                    have LMc12 := Aside0.mk c12
                    clear c12
                    obtain ⟨y117, hy117⟩ : ∃ y_ : List Int, y_ = (x3_2 ++ [(ji11) % 256]) := ⟨_, rfl⟩
                    replace H : (md5_Pad.l1 k2 y117 (IntKind.u64.wrap ((IntKind.u64.wrap ((l0.length : Int))) * 8)) (wrap64 (x21_2 + 1))) = some r := by first | (rw [hy117]; with_reducible exact H) | (have H2_ := (Option.bind_some _ _).symm.trans H; rw [hy117]; with_reducible exact H2_) | (have H2_ := (Option.bind_some _ _).symm.trans H; with_reducible exact H2_) | with_reducible exact H | (rw [hy117]; exact H) | exact H
                    have Ny117 := Aside0.mk hy117
                    clear hy117
                    have H' := Aside0.mk H
                    clear H
                    go_wp2_with (first | ((with_reducible refine gate_builtin (b := .append) (xs := #[.tmp 24, .tmp 30]) rfl ?_); at_builtin; refine Kd.R_append (Kd.int .u8) (w0 := w) w.heap.size rfl (.tmp 24) (.tmp 30) 26 5 (.int .u8 0) 1 rfl Try.underlying26 info5 rfl (by decide) (by omega) u3 x3_2 ((ji11) % 256) [.int .u8 ((ji11) % 256)] (fun _ => True) (fun _ => False) rfl rfl ?aP (fun _ hk => hk.elim) ?aF ?aO ?aB ?aS ?aL ?_; (case aP => exact rfl); (case aB => exact (by repeat (first | (with_reducible first | exact HB.out | apply pA | apply pN | apply pD) | exact HB.out))); (case aF => exact (fun _ _ => trivial)); (case aO => exact (by (with_reducible repeat (first | apply Kd.R_alloc | apply Kd.R_drewN | apply Kd.R_drew)); exact HO_3.out)); (case aS => exact (below_size (by repeat (first | (with_reducible first | exact HB.out | apply pA | apply pN | apply pD) | exact HB.out)))); (case aL => have := LMc12.out; omega); intro v118 w13 ho hb hg hat; rw [← Ny117.out] at ho; have n0_ := Aside0.mk (hb); have n1_ := Aside0.mk (ho); clear HB; clear HO_3; have HB := n0_; have HO119 := n1_; clear n0_ n1_; clear ho hb hg hat))
                    go_roundg k2
                    case measure => have := HK1.out; have := HK2.out; omega
                    case rel => exact ⟨(y117), (wrap64 (x21_2 + 1)), (by first | rfl | (simp; done) | (simp [*]; done)), H', ⟨by have := HK1.out; have := HK2.out; omega⟩, ⟨by (with_reducible repeat (first | apply Kd.R_alloc | apply Kd.R_drewN | apply Kd.R_drew)); exact HO119.out⟩, ⟨by repeat (first | (with_reducible first | exact HB.out | apply pA | apply pN | apply pD) | exact HB.out)⟩⟩
                  · rw [if_neg c12] at H
                    exact absurd H (by simp)
                · rw [if_neg c10] at H
                  exact absurd H (by simp)
              · rw [if_neg c8] at H
                have c8b0 : decide (x21_2 < 8) = false := decide_eq_false c8
                clear c8
                obtain rfl := Option.some.inj H
                go_wp2
                go_ret
                exact ⟨_, by first | rfl | (simp [errW_none, errW_some] <;> rfl) | (simp [*, errW_none, errW_some] <;> rfl), by (with_reducible repeat (first | apply Kd.R_alloc | apply Kd.R_drewN | apply Kd.R_drew)); exact HO_3.out, by repeat (first | (with_reducible first | exact HB.out | apply pA | apply pN | apply pD) | exact HB.out)⟩
        · rw [if_neg c6] at H
          have c6b0 : (((x3_1.length : Int) % 64) == 56) = false := beq_eq_false_iff_ne.mpr c6
          have c6b1 : (((x3_1.length : Int) % 64) != 56) = true := bne_iff_ne.mpr c6
          by_cases c14 : x3_1.length < 140737488355328
          · rw [if_pos c14] at H
            have LMc14 := Aside0.mk c14
            clear c14
            obtain ⟨y114, hy114⟩ : ∃ y_ : List Int, y_ = (x3_1 ++ [0]) := ⟨_, rfl⟩
            replace H : (md5_Pad.l0 k1 l0 y114) = some r := by first | (rw [hy114]; with_reducible exact H) | (have H2_ := (Option.bind_some _ _).symm.trans H; rw [hy114]; with_reducible exact H2_) | (have H2_ := (Option.bind_some _ _).symm.trans H; with_reducible exact H2_) | with_reducible exact H | (rw [hy114]; exact H) | exact H
            have Ny114 := Aside0.mk hy114
            clear hy114
            have H' := Aside0.mk H
            clear H
            obtain ⟨Ao15, co15, eo15⟩ := Kd.R_slice HO_3.out
            subst eo15
            go_wp2_with (first | ((with_reducible refine gate_builtin (b := .append) (xs := #[.tmp 14, .tmp 15]) rfl ?_); at_builtin; refine Kd.R_append (Kd.int .u8) (w0 := w) w.heap.size rfl (.tmp 14) (.tmp 15) 26 5 (.int .u8 0) 1 rfl Try.underlying26 info5 rfl (by decide) (by omega) (.slice Ao15 x3_1.length co15) x3_1 0 [.int .u8 0] (fun _ => True) (fun _ => False) rfl rfl ?aP (fun _ hk => hk.elim) ?aF ?aO ?aB ?aS ?aL ?_; (case aP => exact rfl); (case aB => exact (by repeat (first | (with_reducible first | exact HB.out | apply pA | apply pN | apply pD) | exact HB.out))); (case aF => exact (fun _ _ => trivial)); (case aO => exact (by (with_reducible repeat (first | apply Kd.R_alloc | apply Kd.R_drewN | apply Kd.R_drew)); exact HO_3.out)); (case aS => exact (below_size (by repeat (first | (with_reducible first | exact HB.out | apply pA | apply pN | apply pD) | exact HB.out)))); (case aL => have := LMc14.out; omega); intro v115 w16 ho hb hg hat; rw [← Ny114.out] at ho; have n0_ := Aside0.mk (hb); have n1_ := Aside0.mk (ho); clear HB; clear HO_3; have HB := n0_; have HO116 := n1_; clear n0_ n1_; clear ho hb hg hat))
            go_roundg k1
            case measure => have := HK1.out; omega
            case rel => exact ⟨(y114), H', ⟨by have := HK1.out; omega⟩, ⟨by (with_reducible repeat (first | apply Kd.R_alloc | apply Kd.R_drewN | apply Kd.R_drew)); exact HO116.out⟩, ⟨by repeat (first | (with_reducible first | exact HB.out | apply pA | apply pN | apply pD) | exact HB.out)⟩⟩
          · rw [if_neg c14] at H
            exact absurd H (by simp)
  · rw [if_neg c3] at H
    exact absurd H (by simp)

/-! ### md5_Block_1: function 38 -/
def md5_Block_1.f (a0 : Int) (a1 : Int) (a2 : Int) (a3 : Int) : Option (Int × Int) := some (Go.bits .or .u32 (Go.bits .and .u32 a0 a1) (Go.bits .and .u32 (Go.bits .xor .u32 IntKind.u32.max a0) a2), a3)
set_option maxHeartbeats 8000000 in
set_option maxRecDepth 100000 in
theorem md5_Block_1.calls (a0 : Int) (a1 : Int) (a2 : Int) (a3 : Int) (r1 : Int) (r2 : Int) (w : World) (h : md5_Block_1.f a0 a1 a2 a3 = some (r1, r2)) :
    Calls Try.prog 38 #[.int .u32 a0, .int .u32 a1, .int .u32 a2, .int .i64 a3] w fun e w' => e = .returned (.tuple #[.int .u32 r1, .int .i64 r2]) ∧ Drawn0 w w' := by
  have H : (some (Go.bits .or .u32 (Go.bits .and .u32 a0 a1) (Go.bits .and .u32 (Go.bits .xor .u32 IntKind.u32.max a0) a2), a3)) = some (r1, r2) := h
  clear h
  simp only [Option.some.injEq, Prod.mk.injEq] at H
  obtain ⟨rfl, rfl⟩ := H
  go_enter Try.func38, Try.ntmps38
  go_wp2
  go_ret2
  exact ⟨by first | rfl | (simp; done) | (simp [*]; done), by repeat (first | exact Drawn0.refl _ | apply Drawn0.step)⟩

/-! ### md5_Block_2: function 39 -/
def md5_Block_2.f (a0 : Int) (a1 : Int) (a2 : Int) (a3 : Int) : Option (Int × Int) := some (Go.bits .or .u32 (Go.bits .and .u32 a2 a0) (Go.bits .and .u32 (Go.bits .xor .u32 IntKind.u32.max a2) a1), wrap64 ((wrap64 (5 * a3)) + 1))
set_option maxHeartbeats 8000000 in
set_option maxRecDepth 100000 in
theorem md5_Block_2.calls (a0 : Int) (a1 : Int) (a2 : Int) (a3 : Int) (r1 : Int) (r2 : Int) (w : World) (h : md5_Block_2.f a0 a1 a2 a3 = some (r1, r2)) :
    Calls Try.prog 39 #[.int .u32 a0, .int .u32 a1, .int .u32 a2, .int .i64 a3] w fun e w' => e = .returned (.tuple #[.int .u32 r1, .int .i64 r2]) ∧ Drawn0 w w' := by
  have H : (some (Go.bits .or .u32 (Go.bits .and .u32 a2 a0) (Go.bits .and .u32 (Go.bits .xor .u32 IntKind.u32.max a2) a1), wrap64 ((wrap64 (5 * a3)) + 1))) = some (r1, r2) := h
  clear h
  simp only [Option.some.injEq, Prod.mk.injEq] at H
  obtain ⟨rfl, rfl⟩ := H
  go_enter Try.func39, Try.ntmps39
  go_wp2
  go_ret2
  exact ⟨by first | rfl | (simp; done) | (simp [*]; done), by repeat (first | exact Drawn0.refl _ | apply Drawn0.step)⟩

/-! ### md5_Block_3: function 40 -/
def md5_Block_3.f (a0 : Int) (a1 : Int) (a2 : Int) (a3 : Int) : Option (Int × Int) := some (Go.bits .xor .u32 (Go.bits .xor .u32 a0 a1) a2, wrap64 ((wrap64 (3 * a3)) + 5))
set_option maxHeartbeats 8000000 in
set_option maxRecDepth 100000 in
theorem md5_Block_3.calls (a0 : Int) (a1 : Int) (a2 : Int) (a3 : Int) (r1 : Int) (r2 : Int) (w : World) (h : md5_Block_3.f a0 a1 a2 a3 = some (r1, r2)) :
    Calls Try.prog 40 #[.int .u32 a0, .int .u32 a1, .int .u32 a2, .int .i64 a3] w fun e w' => e = .returned (.tuple #[.int .u32 r1, .int .i64 r2]) ∧ Drawn0 w w' := by
  have H : (some (Go.bits .xor .u32 (Go.bits .xor .u32 a0 a1) a2, wrap64 ((wrap64 (3 * a3)) + 5))) = some (r1, r2) := h
  clear h
  simp only [Option.some.injEq, Prod.mk.injEq] at H
  obtain ⟨rfl, rfl⟩ := H
  go_enter Try.func40, Try.ntmps40
  go_wp2
  go_ret2
  exact ⟨by first | rfl | (simp; done) | (simp [*]; done), by repeat (first | exact Drawn0.refl _ | apply Drawn0.step)⟩

/-! ### md5_Block_4: function 41 -/
def md5_Block_4.f (a0 : Int) (a1 : Int) (a2 : Int) (a3 : Int) : Option (Int × Int) := some (Go.bits .xor .u32 a1 (Go.bits .or .u32 a0 (Go.bits .xor .u32 IntKind.u32.max a2)), wrap64 (7 * a3))
set_option maxHeartbeats 8000000 in
set_option maxRecDepth 100000 in
theorem md5_Block_4.calls (a0 : Int) (a1 : Int) (a2 : Int) (a3 : Int) (r1 : Int) (r2 : Int) (w : World) (h : md5_Block_4.f a0 a1 a2 a3 = some (r1, r2)) :
    Calls Try.prog 41 #[.int .u32 a0, .int .u32 a1, .int .u32 a2, .int .i64 a3] w fun e w' => e = .returned (.tuple #[.int .u32 r1, .int .i64 r2]) ∧ Drawn0 w w' := by
  have H : (some (Go.bits .xor .u32 a1 (Go.bits .or .u32 a0 (Go.bits .xor .u32 IntKind.u32.max a2)), wrap64 (7 * a3))) = some (r1, r2) := h
  clear h
  simp only [Option.some.injEq, Prod.mk.injEq] at H
  obtain ⟨rfl, rfl⟩ := H
  go_enter Try.func41, Try.ntmps41
  go_wp2
  go_ret2
  exact ⟨by first | rfl | (simp; done) | (simp [*]; done), by repeat (first | exact Drawn0.refl _ | apply Drawn0.step)⟩

-- NOT PRINTED: function 42 (md5_words)

/-! ### md5_turns: function 43 -/
def md5_turns.f  : Option (Int × Int × Int × Int × Int × Int × Int × Int × Int × Int × Int × Int × Int × Int × Int × Int) := some (7, 12, 17, 22, 5, 9, 14, 20, 4, 11, 16, 23, 6, 10, 15, 21)
set_option maxHeartbeats 8000000 in
set_option maxRecDepth 100000 in
theorem md5_turns.calls  (r1 : Int) (r2 : Int) (r3 : Int) (r4 : Int) (r5 : Int) (r6 : Int) (r7 : Int) (r8 : Int) (r9 : Int) (r10 : Int) (r11 : Int) (r12 : Int) (r13 : Int) (r14 : Int) (r15 : Int) (r16 : Int) (w : World) (h : md5_turns.f  = some (r1, r2, r3, r4, r5, r6, r7, r8, r9, r10, r11, r12, r13, r14, r15, r16)) :
    Calls Try.prog 43 #[] w fun e w' => e = .returned (.agg #[.int .i64 r1, .int .i64 r2, .int .i64 r3, .int .i64 r4, .int .i64 r5, .int .i64 r6, .int .i64 r7, .int .i64 r8, .int .i64 r9, .int .i64 r10, .int .i64 r11, .int .i64 r12, .int .i64 r13, .int .i64 r14, .int .i64 r15, .int .i64 r16]) ∧ Below w.heap.size w w' := by
  have hu80 := Try.underlying80
  have hu79 := Try.underlying79
  have HB := Aside0.mk (Below.refl w.heap.size w)
  have H : (some (7, 12, 17, 22, 5, 9, 14, 20, 4, 11, 16, 23, 6, 10, 15, 21)) = some (r1, r2, r3, r4, r5, r6, r7, r8, r9, r10, r11, r12, r13, r14, r15, r16) := h
  clear h
  simp only [Option.some.injEq, Prod.mk.injEq] at H
  obtain ⟨rfl, rfl, rfl, rfl, rfl, rfl, rfl, rfl, rfl, rfl, rfl, rfl, rfl, rfl, rfl, rfl⟩ := H
  go_enter Try.func43, Try.ntmps43
  go_wp2_with (first | ((with_reducible refine gate_dst (N := 0) rfl ?_); refine box_event ?hg (N := 0) ?hd (cs := #[.int .i64 0, .int .i64 0, .int .i64 0, .int .i64 0, .int .i64 0, .int .i64 0, .int .i64 0, .int .i64 0, .int .i64 0, .int .i64 0, .int .i64 0, .int .i64 0, .int .i64 0, .int .i64 0, .int .i64 0, .int .i64 0]) (t := 80) ?hr ?_; (case hd => rfl); (case hg => rfl); (case hr => first | (go_simp; done) | (go_simp; rfl)); intro gb120 hg w1 hbox hb; have n0_ := Aside0.mk (below_step (by repeat (first | (with_reducible first | exact HB.out | apply pA | apply pN | apply pD) | exact HB.out)) hb); have n1_ := Aside0.mk (hbox); have n2_ := Aside0.mk ((by rw [hg]; exact (below_size (by repeat (first | (with_reducible first | exact HB.out | apply pA | apply pN | apply pD) | exact HB.out))) : w.heap.size ≤ gb120)); have n3_ := Aside0.mk ((by rw [hg]; exact (below_size (by repeat (first | (with_reducible first | exact HB.out | apply pA | apply pN | apply pD) | exact HB.out))) : w.heap.size ≤ gb120)); clear HB; have HB := n0_; have BK120 := n1_; have GW120 := n2_; have GE120 := n3_; clear n0_ n1_ n2_ n3_; clear hb hbox hg; have hcz2_0 : w1.cell? ⟨gb120, 0, none⟩ = some (.int .i64 0) := (blk_cell BK120.out 0).trans rfl; have hcz2_1 : w1.cell? ⟨gb120, 1, none⟩ = some (.int .i64 0) := (blk_cell BK120.out 1).trans rfl; have hcz2_2 : w1.cell? ⟨gb120, 2, none⟩ = some (.int .i64 0) := (blk_cell BK120.out 2).trans rfl; have hcz2_3 : w1.cell? ⟨gb120, 3, none⟩ = some (.int .i64 0) := (blk_cell BK120.out 3).trans rfl; have hcz2_4 : w1.cell? ⟨gb120, 4, none⟩ = some (.int .i64 0) := (blk_cell BK120.out 4).trans rfl; have hcz2_5 : w1.cell? ⟨gb120, 5, none⟩ = some (.int .i64 0) := (blk_cell BK120.out 5).trans rfl; have hcz2_6 : w1.cell? ⟨gb120, 6, none⟩ = some (.int .i64 0) := (blk_cell BK120.out 6).trans rfl; have hcz2_7 : w1.cell? ⟨gb120, 7, none⟩ = some (.int .i64 0) := (blk_cell BK120.out 7).trans rfl; have hcz2_8 : w1.cell? ⟨gb120, 8, none⟩ = some (.int .i64 0) := (blk_cell BK120.out 8).trans rfl; have hcz2_9 : w1.cell? ⟨gb120, 9, none⟩ = some (.int .i64 0) := (blk_cell BK120.out 9).trans rfl; have hcz2_10 : w1.cell? ⟨gb120, 10, none⟩ = some (.int .i64 0) := (blk_cell BK120.out 10).trans rfl; have hcz2_11 : w1.cell? ⟨gb120, 11, none⟩ = some (.int .i64 0) := (blk_cell BK120.out 11).trans rfl; have hcz2_12 : w1.cell? ⟨gb120, 12, none⟩ = some (.int .i64 0) := (blk_cell BK120.out 12).trans rfl; have hcz2_13 : w1.cell? ⟨gb120, 13, none⟩ = some (.int .i64 0) := (blk_cell BK120.out 13).trans rfl; have hcz2_14 : w1.cell? ⟨gb120, 14, none⟩ = some (.int .i64 0) := (blk_cell BK120.out 14).trans rfl; have hcz2_15 : w1.cell? ⟨gb120, 15, none⟩ = some (.int .i64 0) := (blk_cell BK120.out 15).trans rfl; have hfz2_0 := blk_frozen BK120.out 0; have hfz2_1 := blk_frozen BK120.out 1; have hfz2_2 := blk_frozen BK120.out 2; have hfz2_3 := blk_frozen BK120.out 3; have hfz2_4 := blk_frozen BK120.out 4; have hfz2_5 := blk_frozen BK120.out 5; have hfz2_6 := blk_frozen BK120.out 6; have hfz2_7 := blk_frozen BK120.out 7; have hfz2_8 := blk_frozen BK120.out 8; have hfz2_9 := blk_frozen BK120.out 9; have hfz2_10 := blk_frozen BK120.out 10; have hfz2_11 := blk_frozen BK120.out 11; have hfz2_12 := blk_frozen BK120.out 12; have hfz2_13 := blk_frozen BK120.out 13; have hfz2_14 := blk_frozen BK120.out 14; have hfz2_15 := blk_frozen BK120.out 15))
  refine bodyPost_ret (results_cell_row rfl _ _ gb120 80 #[.int .i64 7, .int .i64 12, .int .i64 17, .int .i64 22, .int .i64 5, .int .i64 9, .int .i64 14, .int .i64 20, .int .i64 4, .int .i64 11, .int .i64 16, .int .i64 23, .int .i64 6, .int .i64 10, .int .i64 15, .int .i64 21] (0, 0) _ rfl (by (with_reducible repeat (first | refine qN ?_ _ | refine qD ?_ | refine qA ?_ _)); refine blk_put (cs := #[.int .i64 7, .int .i64 12, .int .i64 17, .int .i64 22, .int .i64 5, .int .i64 9, .int .i64 14, .int .i64 20, .int .i64 4, .int .i64 11, .int .i64 16, .int .i64 23, .int .i64 6, .int .i64 10, .int .i64 15, .int .i64 0]) ?_ 15 _ rfl; (with_reducible repeat (first | refine qN ?_ _ | refine qD ?_ | refine qA ?_ _)); refine blk_put (cs := #[.int .i64 7, .int .i64 12, .int .i64 17, .int .i64 22, .int .i64 5, .int .i64 9, .int .i64 14, .int .i64 20, .int .i64 4, .int .i64 11, .int .i64 16, .int .i64 23, .int .i64 6, .int .i64 10, .int .i64 0, .int .i64 0]) ?_ 14 _ rfl; (with_reducible repeat (first | refine qN ?_ _ | refine qD ?_ | refine qA ?_ _)); refine blk_put (cs := #[.int .i64 7, .int .i64 12, .int .i64 17, .int .i64 22, .int .i64 5, .int .i64 9, .int .i64 14, .int .i64 20, .int .i64 4, .int .i64 11, .int .i64 16, .int .i64 23, .int .i64 6, .int .i64 0, .int .i64 0, .int .i64 0]) ?_ 13 _ rfl; (with_reducible repeat (first | refine qN ?_ _ | refine qD ?_ | refine qA ?_ _)); refine blk_put (cs := #[.int .i64 7, .int .i64 12, .int .i64 17, .int .i64 22, .int .i64 5, .int .i64 9, .int .i64 14, .int .i64 20, .int .i64 4, .int .i64 11, .int .i64 16, .int .i64 23, .int .i64 0, .int .i64 0, .int .i64 0, .int .i64 0]) ?_ 12 _ rfl; (with_reducible repeat (first | refine qN ?_ _ | refine qD ?_ | refine qA ?_ _)); refine blk_put (cs := #[.int .i64 7, .int .i64 12, .int .i64 17, .int .i64 22, .int .i64 5, .int .i64 9, .int .i64 14, .int .i64 20, .int .i64 4, .int .i64 11, .int .i64 16, .int .i64 0, .int .i64 0, .int .i64 0, .int .i64 0, .int .i64 0]) ?_ 11 _ rfl; (with_reducible repeat (first | refine qN ?_ _ | refine qD ?_ | refine qA ?_ _)); refine blk_put (cs := #[.int .i64 7, .int .i64 12, .int .i64 17, .int .i64 22, .int .i64 5, .int .i64 9, .int .i64 14, .int .i64 20, .int .i64 4, .int .i64 11, .int .i64 0, .int .i64 0, .int .i64 0, .int .i64 0, .int .i64 0, .int .i64 0]) ?_ 10 _ rfl; (with_reducible repeat (first | refine qN ?_ _ | refine qD ?_ | refine qA ?_ _)); refine blk_put (cs := #[.int .i64 7, .int .i64 12, .int .i64 17, .int .i64 22, .int .i64 5, .int .i64 9, .int .i64 14, .int .i64 20, .int .i64 4, .int .i64 0, .int .i64 0, .int .i64 0, .int .i64 0, .int .i64 0, .int .i64 0, .int .i64 0]) ?_ 9 _ rfl; (with_reducible repeat (first | refine qN ?_ _ | refine qD ?_ | refine qA ?_ _)); refine blk_put (cs := #[.int .i64 7, .int .i64 12, .int .i64 17, .int .i64 22, .int .i64 5, .int .i64 9, .int .i64 14, .int .i64 20, .int .i64 0, .int .i64 0, .int .i64 0, .int .i64 0, .int .i64 0, .int .i64 0, .int .i64 0, .int .i64 0]) ?_ 8 _ rfl; (with_reducible repeat (first | refine qN ?_ _ | refine qD ?_ | refine qA ?_ _)); refine blk_put (cs := #[.int .i64 7, .int .i64 12, .int .i64 17, .int .i64 22, .int .i64 5, .int .i64 9, .int .i64 14, .int .i64 0, .int .i64 0, .int .i64 0, .int .i64 0, .int .i64 0, .int .i64 0, .int .i64 0, .int .i64 0, .int .i64 0]) ?_ 7 _ rfl; (with_reducible repeat (first | refine qN ?_ _ | refine qD ?_ | refine qA ?_ _)); refine blk_put (cs := #[.int .i64 7, .int .i64 12, .int .i64 17, .int .i64 22, .int .i64 5, .int .i64 9, .int .i64 0, .int .i64 0, .int .i64 0, .int .i64 0, .int .i64 0, .int .i64 0, .int .i64 0, .int .i64 0, .int .i64 0, .int .i64 0]) ?_ 6 _ rfl; (with_reducible repeat (first | refine qN ?_ _ | refine qD ?_ | refine qA ?_ _)); refine blk_put (cs := #[.int .i64 7, .int .i64 12, .int .i64 17, .int .i64 22, .int .i64 5, .int .i64 0, .int .i64 0, .int .i64 0, .int .i64 0, .int .i64 0, .int .i64 0, .int .i64 0, .int .i64 0, .int .i64 0, .int .i64 0, .int .i64 0]) ?_ 5 _ rfl; (with_reducible repeat (first | refine qN ?_ _ | refine qD ?_ | refine qA ?_ _)); refine blk_put (cs := #[.int .i64 7, .int .i64 12, .int .i64 17, .int .i64 22, .int .i64 0, .int .i64 0, .int .i64 0, .int .i64 0, .int .i64 0, .int .i64 0, .int .i64 0, .int .i64 0, .int .i64 0, .int .i64 0, .int .i64 0, .int .i64 0]) ?_ 4 _ rfl; (with_reducible repeat (first | refine qN ?_ _ | refine qD ?_ | refine qA ?_ _)); refine blk_put (cs := #[.int .i64 7, .int .i64 12, .int .i64 17, .int .i64 0, .int .i64 0, .int .i64 0, .int .i64 0, .int .i64 0, .int .i64 0, .int .i64 0, .int .i64 0, .int .i64 0, .int .i64 0, .int .i64 0, .int .i64 0, .int .i64 0]) ?_ 3 _ rfl; (with_reducible repeat (first | refine qN ?_ _ | refine qD ?_ | refine qA ?_ _)); refine blk_put (cs := #[.int .i64 7, .int .i64 12, .int .i64 0, .int .i64 0, .int .i64 0, .int .i64 0, .int .i64 0, .int .i64 0, .int .i64 0, .int .i64 0, .int .i64 0, .int .i64 0, .int .i64 0, .int .i64 0, .int .i64 0, .int .i64 0]) ?_ 2 _ rfl; (with_reducible repeat (first | refine qN ?_ _ | refine qD ?_ | refine qA ?_ _)); refine blk_put (cs := #[.int .i64 7, .int .i64 0, .int .i64 0, .int .i64 0, .int .i64 0, .int .i64 0, .int .i64 0, .int .i64 0, .int .i64 0, .int .i64 0, .int .i64 0, .int .i64 0, .int .i64 0, .int .i64 0, .int .i64 0, .int .i64 0]) ?_ 1 _ rfl; (with_reducible repeat (first | refine qN ?_ _ | refine qD ?_ | refine qA ?_ _)); refine blk_put (cs := #[.int .i64 0, .int .i64 0, .int .i64 0, .int .i64 0, .int .i64 0, .int .i64 0, .int .i64 0, .int .i64 0, .int .i64 0, .int .i64 0, .int .i64 0, .int .i64 0, .int .i64 0, .int .i64 0, .int .i64 0, .int .i64 0]) ?_ 0 _ rfl; (with_reducible repeat (first | refine qN ?_ _ | refine qD ?_ | refine qA ?_ _)); exact BK120.out) Try.underlying80 rfl (by kernel_rfl)) rfl ?_
  exact ⟨by first | rfl | (simp [errW_none, errW_some] <;> rfl) | (simp [*, errW_none, errW_some] <;> rfl), by repeat (first | (with_reducible first | exact HB.out | apply pA | apply pN | apply pD | refine pS ?_ GE120.out) | exact HB.out)⟩

end Go.Proofs.Ytpbkdphilcodmaa.Q

-- written by this session's own program (wip/tools/myprint.py), over the kit's print
import Derived.Test.YtadgdhefgibakaaQx0
namespace Go.Proofs.Ytadgdhefgibakaa.Q
open Go.RowKit Go.Proofs.YtadgdhefgibakaaW.PrintWords Go.Proofs.YtadgdhefgibakaaW.PrintLast Go.Proofs.YtadgdhefgibakaaW.PrintMore
open Go.Proofs.YtadgdhefgibakaaV
attribute [local go_sem] max2_int min2_int max_two min_two max_three min_three max_four min_four   -- for this text's walks alone
set_option linter.unusedVariables false
set_option linter.unusedSimpArgs false

/-- What is shown behind every operation may be asked for from a place on: where an address is first told. -/
theorem weak_ {P : Program} {md : Region.Mode} {ops : Array Oper} {Q : Exit → Act → World → Prop} (S' : World → Prop) {ds : List Nat} : ∀ {fuel : Nat} {l : Array Bool} {a : Act} {w : World}, wpAnyLast P md ops Q S' ds fuel l a w → wpAnyLast P md ops Q (fun _ => True) ds fuel l a w
  | 0, _, _, _, h => h
  | _ + 1, _, _, _, h => ⟨h.1, fun i hi => wpOp_mono (fun _ _ h' => ⟨fun _ _ => trivial, weak_ S' h'.2⟩) (h.2 i hi)⟩

/-! ### portreeveref02_Pad: function 13 -/
def portreeveref02_Pad.l0 : Nat → List Int → Int → Int → Option (List Int)
  | 0, _, _, _ => none
  | k + 1, x3, x5, x6 => if x6 < 8 then (if x3.length < 140737488355328 then (portreeveref02_Pad.l0 k (x3 ++ [(Int.tmod x5 256) % 256]) (IntKind.u64.wrap (Int.tdiv x5 256)) (wrap64 (x6 + 1))) else (none)) else (some x3)
def portreeveref02_Pad.f (k : Nat) (l0 : List Int) : Option (List Int) := (some (([] : List Int) : List Int)).bind fun y116 => (if y116.length + l0.length < 140737488355328 then ((some (y116 ++ l0 : List Int)).bind fun y119 => (if y119.length < 140737488355328 then ((some (y119 ++ [128] : List Int)).bind fun y122 => (if 0 ≤ ((119 - ((l0.length : Int) % 64)) % 64) then (if y122.length + ((119 - ((l0.length : Int) % 64)) % 64 : Int).toNat < 140737488355328 then (portreeveref02_Pad.l0 k (y122 ++ List.replicate ((119 - ((l0.length : Int) % 64)) % 64 : Int).toNat 0) (IntKind.u64.wrap (8 * (IntKind.u64.wrap ((l0.length : Int))))) 0) else (none)) else (none))) else (none))) else (none))
theorem portreeveref02_Pad.mono_l : ∀ k, (∀ y0 y1 y2, LeO (portreeveref02_Pad.l0 k y0 y1 y2) (portreeveref02_Pad.l0 (k + 1) y0 y1 y2))
  | 0 => fun _ _ _ r h => by simp [portreeveref02_Pad.l0] at h
  | k + 1 => by
    have ih0 := portreeveref02_Pad.mono_l k
    · intro y0 y1 y2
      unfold portreeveref02_Pad.l0
      repeat' first
      | (with_reducible exact ih0 _ _ _)
      | (with_reducible exact LeO.refl _)
      | (with_reducible exact LeO.none _)
      | (with_reducible refine LeO.ite ?_ ?_)
      | (with_reducible refine LeO.bind ?_ (fun _ => ?_))
      | exact ih0 _ _ _
      | exact LeO.none _
      | refine LeO.ite ?_ ?_
      | refine LeO.bind ?_ (fun _ => ?_)
theorem portreeveref02_Pad.mono : ∀ a0 k, LeO (portreeveref02_Pad.f k a0) (portreeveref02_Pad.f (k + 1) a0) := by
  intro a0 k
  have ih0 := portreeveref02_Pad.mono_l k
  unfold portreeveref02_Pad.f
  repeat' first
      | (with_reducible exact ih0 _ _ _)
      | (with_reducible exact LeO.refl _)
      | (with_reducible exact LeO.none _)
      | (with_reducible refine LeO.ite ?_ ?_)
      | (with_reducible refine LeO.bind ?_ (fun _ => ?_))
      | exact ih0 _ _ _
      | exact LeO.none _
      | refine LeO.ite ?_ ?_
      | refine LeO.bind ?_ (fun _ => ?_)
set_option maxHeartbeats 8000000 in
set_option maxRecDepth 100000 in
theorem portreeveref02_Pad.calls (k : Nat) (A0 : Option Addr) (c0 : Nat) (l0 : List Int) (r : List Int) (w : World) (hr0 : Kd.C (Kd.int .u8) w A0 l0.length l0) (hc0 : l0.length ≤ c0) (h : portreeveref02_Pad.f k l0 = some r) :
    Calls Try.prog 13 #[.slice A0 l0.length c0] w fun e w' => ∃ v0_ : Value, e = .returned (v0_) ∧ Kd.R (Kd.int .u8) 5 w' w.heap.size (fun _ => True) v0_ r ∧ Below w.heap.size w w' := by
  have HR0 := Aside0.mk hr0
  have HC0 := Aside0.mk hc0
  clear hr0 hc0
  have HB := Aside0.mk (Below.refl w.heap.size w)
  have H : ((some (([] : List Int) : List Int)).bind fun y116 => (if y116.length + l0.length < 140737488355328 then ((some (y116 ++ l0 : List Int)).bind fun y119 => (if y119.length < 140737488355328 then ((some (y119 ++ [128] : List Int)).bind fun y122 => (if 0 ≤ ((119 - ((l0.length : Int) % 64)) % 64) then (if y122.length + ((119 - ((l0.length : Int) % 64)) % 64 : Int).toNat < 140737488355328 then (portreeveref02_Pad.l0 k (y122 ++ List.replicate ((119 - ((l0.length : Int) % 64)) % 64 : Int).toNat 0) (IntKind.u64.wrap (8 * (IntKind.u64.wrap ((l0.length : Int))))) 0) else (none)) else (none))) else (none))) else (none))) = some r := h
  clear h
  obtain ⟨y116, hy116⟩ : ∃ y_ : List Int, y_ = (([] : List Int)) := ⟨_, rfl⟩
  replace H : (if y116.length + l0.length < 140737488355328 then ((some (y116 ++ l0 : List Int)).bind fun y119 => (if y119.length < 140737488355328 then ((some (y119 ++ [128] : List Int)).bind fun y122 => (if 0 ≤ ((119 - ((l0.length : Int) % 64)) % 64) then (if y122.length + ((119 - ((l0.length : Int) % 64)) % 64 : Int).toNat < 140737488355328 then (portreeveref02_Pad.l0 k (y122 ++ List.replicate ((119 - ((l0.length : Int) % 64)) % 64 : Int).toNat 0) (IntKind.u64.wrap (8 * (IntKind.u64.wrap ((l0.length : Int))))) 0) else (none)) else (none))) else (none))) else (none)) = some r := by first | (rw [hy116]; with_reducible exact H) | (have H2_ := (Option.bind_some _ _).symm.trans H; rw [hy116]; with_reducible exact H2_) | (have H2_ := (Option.bind_some _ _).symm.trans H; with_reducible exact H2_) | with_reducible exact H | (rw [hy116]; exact H) | exact H
  have Ny116 := Aside0.mk hy116
  clear hy116
  by_cases c2 : y116.length + l0.length < 140737488355328
  · rw [if_pos c2] at H
    have LMc2 := Aside0.mk c2
    clear c2
    obtain ⟨y119, hy119⟩ : ∃ y_ : List Int, y_ = (y116 ++ l0) := ⟨_, rfl⟩
    replace H : (if y119.length < 140737488355328 then ((some (y119 ++ [128] : List Int)).bind fun y122 => (if 0 ≤ ((119 - ((l0.length : Int) % 64)) % 64) then (if y122.length + ((119 - ((l0.length : Int) % 64)) % 64 : Int).toNat < 140737488355328 then (portreeveref02_Pad.l0 k (y122 ++ List.replicate ((119 - ((l0.length : Int) % 64)) % 64 : Int).toNat 0) (IntKind.u64.wrap (8 * (IntKind.u64.wrap ((l0.length : Int))))) 0) else (none)) else (none))) else (none)) = some r := by first | (rw [hy119]; with_reducible exact H) | (have H2_ := (Option.bind_some _ _).symm.trans H; rw [hy119]; with_reducible exact H2_) | (have H2_ := (Option.bind_some _ _).symm.trans H; with_reducible exact H2_) | with_reducible exact H | (rw [hy119]; exact H) | exact H
    have Ny119 := Aside0.mk hy119
    clear hy119
    by_cases c3 : y119.length < 140737488355328
    · rw [if_pos c3] at H
      have LMc3 := Aside0.mk c3
      clear c3
      obtain ⟨y122, hy122⟩ : ∃ y_ : List Int, y_ = (y119 ++ [128]) := ⟨_, rfl⟩
      replace H : (if 0 ≤ ((119 - ((l0.length : Int) % 64)) % 64) then (if y122.length + ((119 - ((l0.length : Int) % 64)) % 64 : Int).toNat < 140737488355328 then (portreeveref02_Pad.l0 k (y122 ++ List.replicate ((119 - ((l0.length : Int) % 64)) % 64 : Int).toNat 0) (IntKind.u64.wrap (8 * (IntKind.u64.wrap ((l0.length : Int))))) 0) else (none)) else (none)) = some r := by first | (rw [hy122]; with_reducible exact H) | (have H2_ := (Option.bind_some _ _).symm.trans H; rw [hy122]; with_reducible exact H2_) | (have H2_ := (Option.bind_some _ _).symm.trans H; with_reducible exact H2_) | with_reducible exact H | (rw [hy122]; exact H) | exact H
      have Ny122 := Aside0.mk hy122
      clear hy122
      obtain ⟨ji4, hji4⟩ : ∃ j_ : Int, ((119 - ((l0.length : Int) % 64)) % 64) = j_ := ⟨_, rfl⟩
      replace H : (if 0 ≤ (ji4) then (if y122.length + (ji4 : Int).toNat < 140737488355328 then (portreeveref02_Pad.l0 k (y122 ++ List.replicate (ji4 : Int).toNat 0) (IntKind.u64.wrap (8 * (IntKind.u64.wrap ((l0.length : Int))))) 0) else (none)) else (none)) = some r := by first | (rw [hji4] at H; exact H) | (simp only [hji4] at H ⊢; exact H)
      by_cases c5 : 0 ≤ (ji4)
      · rw [if_pos c5] at H
        have c5b0 := eq_true c5
        have c5b1 : decide (0 ≤ (ji4)) = true := decide_eq_true c5
        clear c5
        by_cases c6 : y122.length + (ji4 : Int).toNat < 140737488355328
        · rw [if_pos c6] at H
          have LMc6 := Aside0.mk c6
          clear c6
          obtain ⟨y125, hy125⟩ : ∃ y_ : List Int, y_ = (y122 ++ List.replicate (ji4 : Int).toNat 0) := ⟨_, rfl⟩
          replace H : (portreeveref02_Pad.l0 k y125 (IntKind.u64.wrap (8 * (IntKind.u64.wrap ((l0.length : Int))))) 0) = some r := by first | (rw [hy125]; with_reducible exact H) | (have H2_ := (Option.bind_some _ _).symm.trans H; rw [hy125]; with_reducible exact H2_) | (have H2_ := (Option.bind_some _ _).symm.trans H; with_reducible exact H2_) | with_reducible exact H | (rw [hy125]; exact H) | exact H
          have Ny125 := Aside0.mk hy125
          clear hy125
          have H' := Aside0.mk H
          clear H
          go_enter Try.func13, Try.ntmps13
          go_wp2_with (first | ((with_reducible refine gate_dst (N := 7) rfl ?_); refine Kd.R_lit (Kd.int .u8) _ 5 ?hg (N := 7) ?hd (xs := ([] : List Int)) (inner := []) (ok := fun _ => True) (okp := fun _ => True) ?hr ?hp (fun _ hk => hk) trivial (Below.refl _ _) (Nat.le_refl _) (by simp) ?_; (case hd => rfl); (case hg => rfl); (case hr => first | (go_simp; done) | (go_simp; rfl)); (case hp => exact (Reps.none _ _)); intro v117 w7 ho8 hb hg_ hnew_; clear hg_ hnew_; (first | rw [← Ny116.out] at ho8 | (simp only [Int.reduceToNat] at ho8; rw [← Ny116.out] at ho8)); have n0_ := Aside0.mk (Kd.R_lower ho8 (below_size (by repeat (first | (with_reducible first | exact HB.out | apply pA | apply pN | apply pD) | exact HB.out)))); have n1_ := Aside0.mk (below_step (by repeat (first | (with_reducible first | exact HB.out | apply pA | apply pN | apply pD) | exact HB.out)) hb); clear HB; have HO118 := n0_; have HB := n1_; clear n0_ n1_; clear hb ho8) | ((with_reducible refine gate_builtin (b := .append) (xs := #[.tmp 7, .tmp 8]) rfl ?_); at_builtin; refine Kd.R_append_rows (Kd.int .u8) (w0 := w) w.heap.size rfl (.tmp 7) (.tmp 8) 22 5 (.int .u8 0) 1 rfl Try.underlying22 info5 rfl (by decide) (by omega) v117 y116 l0 _ _ _ (fun _ => True) (fun _ => False) rfl rfl ?aO ?aR (fun _ _ h => h) (fun _ h => h.elim) ?aF ?aB ?aS ?aL ?_; (case aR => repeat (first | exact (Kd.C_below HR0.out HB.out) | (with_reducible refine Kd.C_alloc ?_ _) | (with_reducible refine Kd.C_drewN ?_ _) | (with_reducible refine Kd.C_drew ?_))); (case aB => exact (by repeat (first | (with_reducible first | exact HB.out | apply pA | apply pN | apply pD) | exact HB.out))); (case aF => exact (fun _ _ => trivial)); (case aO => exact (by (with_reducible repeat (first | apply Kd.R_alloc | apply Kd.R_drewN | apply Kd.R_drew)); exact HO118.out)); (case aS => exact (below_size (by repeat (first | (with_reducible first | exact HB.out | apply pA | apply pN | apply pD) | exact HB.out)))); (case aL => have := LMc2.out; omega); intro v120 w9 ho hb hg hat; rw [← Ny119.out] at ho; have n0_ := Aside0.mk (hb); have n1_ := Aside0.mk (ho); clear HB; clear HO118; have HB := n0_; have HO121 := n1_; clear n0_ n1_; clear ho hb hg hat) | ((with_reducible refine gate_builtin (b := .append) (xs := #[.tmp 10, .tmp 11]) rfl ?_); at_builtin; refine Kd.R_append (Kd.int .u8) (w0 := w) w.heap.size rfl (.tmp 10) (.tmp 11) 22 5 (.int .u8 0) 1 rfl Try.underlying22 info5 rfl (by decide) (by omega) v120 y119 128 [.int .u8 128] (fun _ => True) (fun _ => False) rfl rfl ?aP (fun _ hk => hk.elim) ?aF ?aO ?aB ?aS ?aL ?_; (case aP => exact rfl); (case aB => exact (by repeat (first | (with_reducible first | exact HB.out | apply pA | apply pN | apply pD) | exact HB.out))); (case aF => exact (fun _ _ => trivial)); (case aO => exact (by (with_reducible repeat (first | apply Kd.R_alloc | apply Kd.R_drewN | apply Kd.R_drew)); exact HO121.out)); (case aS => exact (below_size (by repeat (first | (with_reducible first | exact HB.out | apply pA | apply pN | apply pD) | exact HB.out)))); (case aL => have := LMc3.out; omega); intro v123 w10 ho hb hg hat; rw [← Ny122.out] at ho; have n0_ := Aside0.mk (hb); have n1_ := Aside0.mk (ho); clear HB; clear HO121; have HB := n0_; have HO124 := n1_; clear n0_ n1_; clear ho hb hg hat) | (at_builtin; refine Kd.R_append_zeros (Kd.int .u8) (w0 := w) w.heap.size rfl (.tmp 18) (.tmp 19) 22 3 5 (.int .u8 0) 1 rfl Try.underlying22 Try.underlying3 info5 rfl (by decide) (by omega) v123 y122 0 (ji4 : Int) (fun _ => True) rfl (by first | rfl | (rw [← hji4]; rfl)) rfl ?aF ?aO (of_decide_eq_true (by first | (with_reducible assumption) | assumption)) ?aB ?aS ?aL ?_; (case aB => exact (by repeat (first | (with_reducible first | exact HB.out | apply pA | apply pN | apply pD) | exact HB.out))); (case aF => exact (fun _ _ => trivial)); (case aO => exact (by (with_reducible repeat (first | apply Kd.R_alloc | apply Kd.R_drewN | apply Kd.R_drew)); exact HO124.out)); (case aS => exact (below_size (by repeat (first | (with_reducible first | exact HB.out | apply pA | apply pN | apply pD) | exact HB.out)))); (case aL => have := LMc6.out; omega); intro v126 w11 ho hb hg hat; (try simp only [Int.reduceToNat] at ho); rw [← Ny125.out] at ho; have n0_ := Aside0.mk (hb); have n1_ := Aside0.mk (ho); clear HB; clear HO124; have HB := n0_; have HO127 := n1_; clear n0_ n1_; clear ho hb hg hat))
          go_loopg [3, 5, 6] k (fun kq v3 v5 v6 w' => ∃ (x3_1 : List Int) (x5_1 : Int) (x6_1 : Int), v5 = .int .u64 x5_1 ∧ v6 = .int .i64 x6_1 ∧ Aside0 (portreeveref02_Pad.l0 kq x3_1 x5_1 x6_1 = some r) ∧ Aside0 (kq ≤ k) ∧ Aside0 (Kd.R (Kd.int .u8) 5 w' w.heap.size (fun _ => True) v3 x3_1) ∧ Aside0 (Below w.heap.size w w'))
          case atStart => exact ⟨(y125), (IntKind.u64.wrap (8 * (IntKind.u64.wrap ((l0.length : Int))))), (0), (by first | rfl | (simp; done) | (simp [*]; done)), (by first | rfl | (simp; done) | (simp [*]; done)), H', ⟨Nat.le_refl _⟩, ⟨by (with_reducible repeat (first | apply Kd.R_alloc | apply Kd.R_drewN | apply Kd.R_drew)); exact HO127.out⟩, ⟨by repeat (first | (with_reducible first | exact HB.out | apply pA | apply pN | apply pD) | exact HB.out)⟩⟩
          case round =>
            clear H'
            try clear c1
            try clear c2
            try clear p2
            try clear c3
            try clear c5
            try clear c5b0
            try clear c5b1
            try clear c6
            obtain ⟨x3_1, x5_1, x6_1, rfl, rfl, HA, HK1, HO_3, HB⟩ := hrel
            cases gk with
            | zero => exact absurd HA.out (by simp [portreeveref02_Pad.l0])
            | succ k1 =>
              have H := HA.out
              clear HA
              simp only [portreeveref02_Pad.l0] at H
              by_cases c12 : x6_1 < 8
              · rw [if_pos c12] at H
                have c12b0 : decide (x6_1 < 8) = true := decide_eq_true c12
                clear c12
                by_cases c13 : x3_1.length < 140737488355328
                · rw [if_pos c13] at H
                  have LMc13 := Aside0.mk c13
                  clear c13
                  obtain ⟨y128, hy128⟩ : ∃ y_ : List Int, y_ = (x3_1 ++ [(Int.tmod x5_1 256) % 256]) := ⟨_, rfl⟩
                  replace H : (portreeveref02_Pad.l0 k1 y128 (IntKind.u64.wrap (Int.tdiv x5_1 256)) (wrap64 (x6_1 + 1))) = some r := by first | (rw [hy128]; with_reducible exact H) | (have H2_ := (Option.bind_some _ _).symm.trans H; rw [hy128]; with_reducible exact H2_) | (have H2_ := (Option.bind_some _ _).symm.trans H; with_reducible exact H2_) | with_reducible exact H | (rw [hy128]; exact H) | exact H
                  have Ny128 := Aside0.mk hy128
                  clear hy128
                  have H' := Aside0.mk H
                  clear H
                  go_wp2_with (first | ((with_reducible refine gate_builtin (b := .append) (xs := #[.tmp 29, .tmp 33]) rfl ?_); at_builtin; refine Kd.R_append (Kd.int .u8) (w0 := w) w.heap.size rfl (.tmp 29) (.tmp 33) 22 5 (.int .u8 0) 1 rfl Try.underlying22 info5 rfl (by decide) (by omega) u3 x3_1 ((Int.tmod x5_1 256) % 256) [.int .u8 ((Int.tmod x5_1 256) % 256)] (fun _ => True) (fun _ => False) rfl rfl ?aP (fun _ hk => hk.elim) ?aF ?aO ?aB ?aS ?aL ?_; (case aP => exact rfl); (case aB => exact (by repeat (first | (with_reducible first | exact HB.out | apply pA | apply pN | apply pD) | exact HB.out))); (case aF => exact (fun _ _ => trivial)); (case aO => exact (by (with_reducible repeat (first | apply Kd.R_alloc | apply Kd.R_drewN | apply Kd.R_drew)); exact HO_3.out)); (case aS => exact (below_size (by repeat (first | (with_reducible first | exact HB.out | apply pA | apply pN | apply pD) | exact HB.out)))); (case aL => have := LMc13.out; omega); intro v129 w14 ho hb hg hat; rw [← Ny128.out] at ho; have n0_ := Aside0.mk (hb); have n1_ := Aside0.mk (ho); clear HB; clear HO_3; have HB := n0_; have HO130 := n1_; clear n0_ n1_; clear ho hb hg hat))
                  go_roundg k1
                  case measure => have := HK1.out; omega
                  case rel => exact ⟨(y128), (IntKind.u64.wrap (Int.tdiv x5_1 256)), (wrap64 (x6_1 + 1)), (by first | rfl | (simp; done) | (simp [*]; done)), (by first | rfl | (simp; done) | (simp [*]; done)), H', ⟨by have := HK1.out; omega⟩, ⟨by (with_reducible repeat (first | apply Kd.R_alloc | apply Kd.R_drewN | apply Kd.R_drew)); exact HO130.out⟩, ⟨by repeat (first | (with_reducible first | exact HB.out | apply pA | apply pN | apply pD) | exact HB.out)⟩⟩
                · rw [if_neg c13] at H
                  exact absurd H (by simp)
              · rw [if_neg c12] at H
                have c12b0 : decide (x6_1 < 8) = false := decide_eq_false c12
                clear c12
                obtain rfl := Option.some.inj H
                go_wp2
                go_ret
                exact ⟨_, by first | rfl | (simp [errW_none, errW_some] <;> rfl) | (simp only [← hji4]; first | rfl | (simp [errW_none, errW_some] <;> rfl)) | (simp [*, errW_none, errW_some] <;> rfl), by (with_reducible repeat (first | apply Kd.R_alloc | apply Kd.R_drewN | apply Kd.R_drew)); exact HO_3.out, by repeat (first | (with_reducible first | exact HB.out | apply pA | apply pN | apply pD) | exact HB.out)⟩
        · rw [if_neg c6] at H
          exact absurd H (by simp)
      · rw [if_neg c5] at H
        exact absurd H (by simp)
    · rw [if_neg c3] at H
      exact absurd H (by simp)
  · rw [if_neg c2] at H
    exact absurd H (by simp)

/-! ### portreeveref02_turn: function 25 -/
def portreeveref02_turn.l0 : Nat → Int → Int → Int → Option (Int)
  | 0, _, _, _ => none
  | k + 1, x0, x1, x5 => if x5 < x1 then (portreeveref02_turn.l0 k ((((x0 * 2) % 4294967296) + ((Int.tdiv x0 2147483648) % 4294967296)) % 4294967296) x1 (wrap64 (x5 + 1))) else (some x0)
def portreeveref02_turn.f (k : Nat) (a0 : Int) (a1 : Int) : Option (Int) := portreeveref02_turn.l0 k a0 a1 0
theorem portreeveref02_turn.mono_l : ∀ k, (∀ y0 y1 y2, LeO (portreeveref02_turn.l0 k y0 y1 y2) (portreeveref02_turn.l0 (k + 1) y0 y1 y2))
  | 0 => fun _ _ _ r h => by simp [portreeveref02_turn.l0] at h
  | k + 1 => by
    have ih0 := portreeveref02_turn.mono_l k
    · intro y0 y1 y2
      unfold portreeveref02_turn.l0
      repeat' first
      | (with_reducible exact ih0 _ _ _)
      | (with_reducible exact LeO.refl _)
      | (with_reducible exact LeO.none _)
      | (with_reducible refine LeO.ite ?_ ?_)
      | (with_reducible refine LeO.bind ?_ (fun _ => ?_))
      | exact ih0 _ _ _
      | exact LeO.none _
      | refine LeO.ite ?_ ?_
      | refine LeO.bind ?_ (fun _ => ?_)
theorem portreeveref02_turn.mono : ∀ a0 a1 k, LeO (portreeveref02_turn.f k a0 a1) (portreeveref02_turn.f (k + 1) a0 a1) := by
  intro a0 a1 k
  have ih0 := portreeveref02_turn.mono_l k
  unfold portreeveref02_turn.f
  repeat' first
      | (with_reducible exact ih0 _ _ _)
      | (with_reducible exact LeO.refl _)
      | (with_reducible exact LeO.none _)
      | (with_reducible refine LeO.ite ?_ ?_)
      | (with_reducible refine LeO.bind ?_ (fun _ => ?_))
      | exact ih0 _ _ _
      | exact LeO.none _
      | refine LeO.ite ?_ ?_
      | refine LeO.bind ?_ (fun _ => ?_)
set_option maxHeartbeats 8000000 in
set_option maxRecDepth 100000 in
theorem portreeveref02_turn.calls (k : Nat) (a0 : Int) (a1 : Int) (r : Int) (w : World) (h : portreeveref02_turn.f k a0 a1 = some r) :
    Calls Try.prog 25 #[.int .u32 a0, .int .i64 a1] w fun e w' => e = .returned (.int .u32 r) ∧ Drawn0 w w' := by
  have H : (portreeveref02_turn.l0 k a0 a1 0) = some r := h
  clear h
  have H' := Aside0.mk H
  clear H
  go_enter Try.func25, Try.ntmps25
  go_wp2
  go_loopg [0, 5] k (fun kq v0 v5 w' => ∃ (x0_1 : Int) (x5_1 : Int), v0 = .int .u32 x0_1 ∧ v5 = .int .i64 x5_1 ∧ Aside0 (portreeveref02_turn.l0 kq x0_1 a1 x5_1 = some r) ∧ Aside0 (kq ≤ k) ∧ Drawn0 w w')
  case atStart => exact ⟨(a0), (0), (by first | rfl | (simp; done) | (simp [*]; done)), (by first | rfl | (simp; done) | (simp [*]; done)), H', ⟨Nat.le_refl _⟩, by repeat (first | exact Drawn0.refl _ | apply Drawn0.step)⟩
  case round =>
    clear H'
    try clear c2
    try clear p2
    obtain ⟨x0_1, x5_1, rfl, rfl, HA, HK1, ⟨m1, rfl⟩⟩ := hrel
    cases gk with
    | zero => exact absurd HA.out (by simp [portreeveref02_turn.l0])
    | succ k1 =>
      have H := HA.out
      clear HA
      simp only [portreeveref02_turn.l0] at H
      by_cases c3 : x5_1 < a1
      · rw [if_pos c3] at H
        have c3b0 : decide (x5_1 < a1) = true := decide_eq_true c3
        clear c3
        have H' := Aside0.mk H
        clear H
        go_wp2
        go_roundg k1
        case measure => have := HK1.out; omega
        case rel => exact ⟨((((x0_1 * 2) % 4294967296) + ((Int.tdiv x0_1 2147483648) % 4294967296)) % 4294967296), (wrap64 (x5_1 + 1)), (by first | rfl | (simp; done) | (simp [*]; done)), (by first | rfl | (simp; done) | (simp [*]; done)), H', ⟨by have := HK1.out; omega⟩, by repeat (first | exact Drawn0.refl _ | apply Drawn0.step)⟩
      · rw [if_neg c3] at H
        have c3b0 : decide (x5_1 < a1) = false := decide_eq_false c3
        clear c3
        obtain rfl := Option.some.inj H
        go_wp2
        go_ret
        exact ⟨by first | rfl | (simp; done) | (simp [*]; done), by repeat (first | exact Drawn0.refl _ | apply Drawn0.step)⟩

/-! ### portreeveref02_k: function 26 -/
def portreeveref02_k.f  : Option (List Int) := some (([3614090360, 3905402710, 606105819, 3250441966, 4118548399, 1200080426, 2821735955, 4249261313, 1770035416, 2336552879, 4294925233, 2304563134, 1804603682, 4254626195, 2792965006, 1236535329, 4129170786, 3225465664, 643717713, 3921069994, 3593408605, 38016083, 3634488961, 3889429448, 568446438, 3275163606, 4107603335, 1163531501, 2850285829, 4243563512, 1735328473, 2368359562, 4294588738, 2272392833, 1839030562, 4259657740, 2763975236, 1272893353, 4139469664, 3200236656, 681279174, 3936430074, 3572445317, 76029189, 3654602809, 3873151461, 530742520, 3299628645, 4096336452, 1126891415, 2878612391, 4237533241, 1700485571, 2399980690, 4293915773, 2240044497, 1873313359, 4264355552, 2734768916, 1309151649, 4149444226, 3174756917, 718787259, 3951481745] : List Int))
set_option maxHeartbeats 8000000 in
set_option maxRecDepth 100000 in
theorem portreeveref02_k.calls  (r : List Int) (w : World) (h : portreeveref02_k.f  = some r) :
    Calls Try.prog 26 #[] w fun e w' => ∃ v0_ : Value, e = .returned (v0_) ∧ Kd.R (Kd.int .u32) 23 w' w.heap.size (fun _ => True) v0_ r ∧ Below w.heap.size w w' := by
  have HB := Aside0.mk (Below.refl w.heap.size w)
  have H : (some (([3614090360, 3905402710, 606105819, 3250441966, 4118548399, 1200080426, 2821735955, 4249261313, 1770035416, 2336552879, 4294925233, 2304563134, 1804603682, 4254626195, 2792965006, 1236535329, 4129170786, 3225465664, 643717713, 3921069994, 3593408605, 38016083, 3634488961, 3889429448, 568446438, 3275163606, 4107603335, 1163531501, 2850285829, 4243563512, 1735328473, 2368359562, 4294588738, 2272392833, 1839030562, 4259657740, 2763975236, 1272893353, 4139469664, 3200236656, 681279174, 3936430074, 3572445317, 76029189, 3654602809, 3873151461, 530742520, 3299628645, 4096336452, 1126891415, 2878612391, 4237533241, 1700485571, 2399980690, 4293915773, 2240044497, 1873313359, 4264355552, 2734768916, 1309151649, 4149444226, 3174756917, 718787259, 3951481745] : List Int))) = some r := h
  clear h
  obtain ⟨y131, hy131⟩ : ∃ y_ : List Int, y_ = (([3614090360, 3905402710, 606105819, 3250441966, 4118548399, 1200080426, 2821735955, 4249261313, 1770035416, 2336552879, 4294925233, 2304563134, 1804603682, 4254626195, 2792965006, 1236535329, 4129170786, 3225465664, 643717713, 3921069994, 3593408605, 38016083, 3634488961, 3889429448, 568446438, 3275163606, 4107603335, 1163531501, 2850285829, 4243563512, 1735328473, 2368359562, 4294588738, 2272392833, 1839030562, 4259657740, 2763975236, 1272893353, 4139469664, 3200236656, 681279174, 3936430074, 3572445317, 76029189, 3654602809, 3873151461, 530742520, 3299628645, 4096336452, 1126891415, 2878612391, 4237533241, 1700485571, 2399980690, 4293915773, 2240044497, 1873313359, 4264355552, 2734768916, 1309151649, 4149444226, 3174756917, 718787259, 3951481745] : List Int)) := ⟨_, rfl⟩
  replace H : (some y131) = some r := by first | (rw [hy131]; with_reducible exact H) | (have H2_ := (Option.bind_some _ _).symm.trans H; rw [hy131]; with_reducible exact H2_) | (have H2_ := (Option.bind_some _ _).symm.trans H; with_reducible exact H2_) | with_reducible exact H | (rw [hy131]; exact H) | exact H
  have Ny131 := Aside0.mk hy131
  clear hy131
  obtain rfl := Option.some.inj H
  go_enter Try.func26, Try.ntmps26
  go_wp2_with (first | ((with_reducible refine gate_dst (N := 1) rfl ?_); refine Kd.R_lit (Kd.int .u32) _ 23 ?hg (N := 1) ?hd (xs := ([3614090360, 3905402710, 606105819, 3250441966, 4118548399, 1200080426, 2821735955, 4249261313, 1770035416, 2336552879, 4294925233, 2304563134, 1804603682, 4254626195, 2792965006, 1236535329, 4129170786, 3225465664, 643717713, 3921069994, 3593408605, 38016083, 3634488961, 3889429448, 568446438, 3275163606, 4107603335, 1163531501, 2850285829, 4243563512, 1735328473, 2368359562, 4294588738, 2272392833, 1839030562, 4259657740, 2763975236, 1272893353, 4139469664, 3200236656, 681279174, 3936430074, 3572445317, 76029189, 3654602809, 3873151461, 530742520, 3299628645, 4096336452, 1126891415, 2878612391, 4237533241, 1700485571, 2399980690, 4293915773, 2240044497, 1873313359, 4264355552, 2734768916, 1309151649, 4149444226, 3174756917, 718787259, 3951481745] : List Int)) (inner := [.int .u32 3614090360, .int .u32 3905402710, .int .u32 606105819, .int .u32 3250441966, .int .u32 4118548399, .int .u32 1200080426, .int .u32 2821735955, .int .u32 4249261313, .int .u32 1770035416, .int .u32 2336552879, .int .u32 4294925233, .int .u32 2304563134, .int .u32 1804603682, .int .u32 4254626195, .int .u32 2792965006, .int .u32 1236535329, .int .u32 4129170786, .int .u32 3225465664, .int .u32 643717713, .int .u32 3921069994, .int .u32 3593408605, .int .u32 38016083, .int .u32 3634488961, .int .u32 3889429448, .int .u32 568446438, .int .u32 3275163606, .int .u32 4107603335, .int .u32 1163531501, .int .u32 2850285829, .int .u32 4243563512, .int .u32 1735328473, .int .u32 2368359562, .int .u32 4294588738, .int .u32 2272392833, .int .u32 1839030562, .int .u32 4259657740, .int .u32 2763975236, .int .u32 1272893353, .int .u32 4139469664, .int .u32 3200236656, .int .u32 681279174, .int .u32 3936430074, .int .u32 3572445317, .int .u32 76029189, .int .u32 3654602809, .int .u32 3873151461, .int .u32 530742520, .int .u32 3299628645, .int .u32 4096336452, .int .u32 1126891415, .int .u32 2878612391, .int .u32 4237533241, .int .u32 1700485571, .int .u32 2399980690, .int .u32 4293915773, .int .u32 2240044497, .int .u32 1873313359, .int .u32 4264355552, .int .u32 2734768916, .int .u32 1309151649, .int .u32 4149444226, .int .u32 3174756917, .int .u32 718787259, .int .u32 3951481745]) (ok := fun _ => True) (okp := fun _ => True) ?hr ?hp (fun _ hk => hk) trivial (Below.refl _ _) (Nat.le_refl _) (by simp) ?_; (case hd => rfl); (case hg => rfl); (case hr => first | (go_simp; done) | (go_simp; rfl)); (case hp => exact (Reps.one (show Kd.M (Kd.int .u32) _ _ _ 3614090360 [.int .u32 3614090360] from rfl) (Reps.one (show Kd.M (Kd.int .u32) _ _ _ 3905402710 [.int .u32 3905402710] from rfl) (Reps.one (show Kd.M (Kd.int .u32) _ _ _ 606105819 [.int .u32 606105819] from rfl) (Reps.one (show Kd.M (Kd.int .u32) _ _ _ 3250441966 [.int .u32 3250441966] from rfl) (Reps.one (show Kd.M (Kd.int .u32) _ _ _ 4118548399 [.int .u32 4118548399] from rfl) (Reps.one (show Kd.M (Kd.int .u32) _ _ _ 1200080426 [.int .u32 1200080426] from rfl) (Reps.one (show Kd.M (Kd.int .u32) _ _ _ 2821735955 [.int .u32 2821735955] from rfl) (Reps.one (show Kd.M (Kd.int .u32) _ _ _ 4249261313 [.int .u32 4249261313] from rfl) (Reps.one (show Kd.M (Kd.int .u32) _ _ _ 1770035416 [.int .u32 1770035416] from rfl) (Reps.one (show Kd.M (Kd.int .u32) _ _ _ 2336552879 [.int .u32 2336552879] from rfl) (Reps.one (show Kd.M (Kd.int .u32) _ _ _ 4294925233 [.int .u32 4294925233] from rfl) (Reps.one (show Kd.M (Kd.int .u32) _ _ _ 2304563134 [.int .u32 2304563134] from rfl) (Reps.one (show Kd.M (Kd.int .u32) _ _ _ 1804603682 [.int .u32 1804603682] from rfl) (Reps.one (show Kd.M (Kd.int .u32) _ _ _ 4254626195 [.int .u32 4254626195] from rfl) (Reps.one (show Kd.M (Kd.int .u32) _ _ _ 2792965006 [.int .u32 2792965006] from rfl) (Reps.one (show Kd.M (Kd.int .u32) _ _ _ 1236535329 [.int .u32 1236535329] from rfl) (Reps.one (show Kd.M (Kd.int .u32) _ _ _ 4129170786 [.int .u32 4129170786] from rfl) (Reps.one (show Kd.M (Kd.int .u32) _ _ _ 3225465664 [.int .u32 3225465664] from rfl) (Reps.one (show Kd.M (Kd.int .u32) _ _ _ 643717713 [.int .u32 643717713] from rfl) (Reps.one (show Kd.M (Kd.int .u32) _ _ _ 3921069994 [.int .u32 3921069994] from rfl) (Reps.one (show Kd.M (Kd.int .u32) _ _ _ 3593408605 [.int .u32 3593408605] from rfl) (Reps.one (show Kd.M (Kd.int .u32) _ _ _ 38016083 [.int .u32 38016083] from rfl) (Reps.one (show Kd.M (Kd.int .u32) _ _ _ 3634488961 [.int .u32 3634488961] from rfl) (Reps.one (show Kd.M (Kd.int .u32) _ _ _ 3889429448 [.int .u32 3889429448] from rfl) (Reps.one (show Kd.M (Kd.int .u32) _ _ _ 568446438 [.int .u32 568446438] from rfl) (Reps.one (show Kd.M (Kd.int .u32) _ _ _ 3275163606 [.int .u32 3275163606] from rfl) (Reps.one (show Kd.M (Kd.int .u32) _ _ _ 4107603335 [.int .u32 4107603335] from rfl) (Reps.one (show Kd.M (Kd.int .u32) _ _ _ 1163531501 [.int .u32 1163531501] from rfl) (Reps.one (show Kd.M (Kd.int .u32) _ _ _ 2850285829 [.int .u32 2850285829] from rfl) (Reps.one (show Kd.M (Kd.int .u32) _ _ _ 4243563512 [.int .u32 4243563512] from rfl) (Reps.one (show Kd.M (Kd.int .u32) _ _ _ 1735328473 [.int .u32 1735328473] from rfl) (Reps.one (show Kd.M (Kd.int .u32) _ _ _ 2368359562 [.int .u32 2368359562] from rfl) (Reps.one (show Kd.M (Kd.int .u32) _ _ _ 4294588738 [.int .u32 4294588738] from rfl) (Reps.one (show Kd.M (Kd.int .u32) _ _ _ 2272392833 [.int .u32 2272392833] from rfl) (Reps.one (show Kd.M (Kd.int .u32) _ _ _ 1839030562 [.int .u32 1839030562] from rfl) (Reps.one (show Kd.M (Kd.int .u32) _ _ _ 4259657740 [.int .u32 4259657740] from rfl) (Reps.one (show Kd.M (Kd.int .u32) _ _ _ 2763975236 [.int .u32 2763975236] from rfl) (Reps.one (show Kd.M (Kd.int .u32) _ _ _ 1272893353 [.int .u32 1272893353] from rfl) (Reps.one (show Kd.M (Kd.int .u32) _ _ _ 4139469664 [.int .u32 4139469664] from rfl) (Reps.one (show Kd.M (Kd.int .u32) _ _ _ 3200236656 [.int .u32 3200236656] from rfl) (Reps.one (show Kd.M (Kd.int .u32) _ _ _ 681279174 [.int .u32 681279174] from rfl) (Reps.one (show Kd.M (Kd.int .u32) _ _ _ 3936430074 [.int .u32 3936430074] from rfl) (Reps.one (show Kd.M (Kd.int .u32) _ _ _ 3572445317 [.int .u32 3572445317] from rfl) (Reps.one (show Kd.M (Kd.int .u32) _ _ _ 76029189 [.int .u32 76029189] from rfl) (Reps.one (show Kd.M (Kd.int .u32) _ _ _ 3654602809 [.int .u32 3654602809] from rfl) (Reps.one (show Kd.M (Kd.int .u32) _ _ _ 3873151461 [.int .u32 3873151461] from rfl) (Reps.one (show Kd.M (Kd.int .u32) _ _ _ 530742520 [.int .u32 530742520] from rfl) (Reps.one (show Kd.M (Kd.int .u32) _ _ _ 3299628645 [.int .u32 3299628645] from rfl) (Reps.one (show Kd.M (Kd.int .u32) _ _ _ 4096336452 [.int .u32 4096336452] from rfl) (Reps.one (show Kd.M (Kd.int .u32) _ _ _ 1126891415 [.int .u32 1126891415] from rfl) (Reps.one (show Kd.M (Kd.int .u32) _ _ _ 2878612391 [.int .u32 2878612391] from rfl) (Reps.one (show Kd.M (Kd.int .u32) _ _ _ 4237533241 [.int .u32 4237533241] from rfl) (Reps.one (show Kd.M (Kd.int .u32) _ _ _ 1700485571 [.int .u32 1700485571] from rfl) (Reps.one (show Kd.M (Kd.int .u32) _ _ _ 2399980690 [.int .u32 2399980690] from rfl) (Reps.one (show Kd.M (Kd.int .u32) _ _ _ 4293915773 [.int .u32 4293915773] from rfl) (Reps.one (show Kd.M (Kd.int .u32) _ _ _ 2240044497 [.int .u32 2240044497] from rfl) (Reps.one (show Kd.M (Kd.int .u32) _ _ _ 1873313359 [.int .u32 1873313359] from rfl) (Reps.one (show Kd.M (Kd.int .u32) _ _ _ 4264355552 [.int .u32 4264355552] from rfl) (Reps.one (show Kd.M (Kd.int .u32) _ _ _ 2734768916 [.int .u32 2734768916] from rfl) (Reps.one (show Kd.M (Kd.int .u32) _ _ _ 1309151649 [.int .u32 1309151649] from rfl) (Reps.one (show Kd.M (Kd.int .u32) _ _ _ 4149444226 [.int .u32 4149444226] from rfl) (Reps.one (show Kd.M (Kd.int .u32) _ _ _ 3174756917 [.int .u32 3174756917] from rfl) (Reps.one (show Kd.M (Kd.int .u32) _ _ _ 718787259 [.int .u32 718787259] from rfl) (Reps.one (show Kd.M (Kd.int .u32) _ _ _ 3951481745 [.int .u32 3951481745] from rfl) (Reps.none _ _)))))))))))))))))))))))))))))))))))))))))))))))))))))))))))))))))); intro v132 w1 ho2 hb hg_ hnew_; clear hg_ hnew_; (first | rw [← Ny131.out] at ho2 | (simp only [Int.reduceToNat] at ho2; rw [← Ny131.out] at ho2)); have n0_ := Aside0.mk (Kd.R_lower ho2 (below_size (by repeat (first | (with_reducible first | exact HB.out | apply pA | apply pN | apply pD) | exact HB.out)))); have n1_ := Aside0.mk (below_step (by repeat (first | (with_reducible first | exact HB.out | apply pA | apply pN | apply pD) | exact HB.out)) hb); clear HB; have HO133 := n0_; have HB := n1_; clear n0_ n1_; clear hb ho2))
  go_ret
  exact ⟨_, by first | rfl | (simp [errW_none, errW_some] <;> rfl) | (simp [*, errW_none, errW_some] <;> rfl), by (with_reducible repeat (first | apply Kd.R_alloc | apply Kd.R_drewN | apply Kd.R_drew)); exact HO133.out, by repeat (first | (with_reducible first | exact HB.out | apply pA | apply pN | apply pD) | exact HB.out)⟩

/-! ### portreeveref02_at: function 27 -/
def portreeveref02_at.f (l0 : List Int) (a1 : Int) : Option (Int) := if 0 ≤ (wrap64 (4 * a1)) then (if (wrap64 (4 * a1)) < (l0.length : Int) then (if 0 ≤ (wrap64 ((wrap64 (4 * a1)) + 1)) then (if (wrap64 ((wrap64 (4 * a1)) + 1)) < (l0.length : Int) then (if 0 ≤ (wrap64 ((wrap64 (4 * a1)) + 2)) then (if (wrap64 ((wrap64 (4 * a1)) + 2)) < (l0.length : Int) then (if 0 ≤ (wrap64 ((wrap64 (4 * a1)) + 3)) then (if (wrap64 ((wrap64 (4 * a1)) + 3)) < (l0.length : Int) then (some ((((((((rd l0 (wrap64 (4 * a1))) % 4294967296) + ((256 * ((rd l0 (wrap64 ((wrap64 (4 * a1)) + 1))) % 4294967296)) % 4294967296)) % 4294967296) + ((65536 * ((rd l0 (wrap64 ((wrap64 (4 * a1)) + 2))) % 4294967296)) % 4294967296)) % 4294967296) + ((16777216 * ((rd l0 (wrap64 ((wrap64 (4 * a1)) + 3))) % 4294967296)) % 4294967296)) % 4294967296)) else (none)) else (none)) else (none)) else (none)) else (none)) else (none)) else (none)) else (none)
set_option maxHeartbeats 8000000 in
set_option maxRecDepth 100000 in
theorem portreeveref02_at.calls (A0 : Option Addr) (c0 : Nat) (l0 : List Int) (a1 : Int) (r : Int) (w : World) (hr0 : Kd.C (Kd.int .u8) w A0 l0.length l0) (hc0 : l0.length ≤ c0) (h : portreeveref02_at.f l0 a1 = some r) :
    Calls Try.prog 27 #[.slice A0 l0.length c0, .int .i64 a1] w fun e w' => e = .returned (.int .u32 r) ∧ Drawn0 w w' := by
  have HR0 := Aside0.mk hr0
  have HC0 := Aside0.mk hc0
  clear hr0 hc0
  have H : (if 0 ≤ (wrap64 (4 * a1)) then (if (wrap64 (4 * a1)) < (l0.length : Int) then (if 0 ≤ (wrap64 ((wrap64 (4 * a1)) + 1)) then (if (wrap64 ((wrap64 (4 * a1)) + 1)) < (l0.length : Int) then (if 0 ≤ (wrap64 ((wrap64 (4 * a1)) + 2)) then (if (wrap64 ((wrap64 (4 * a1)) + 2)) < (l0.length : Int) then (if 0 ≤ (wrap64 ((wrap64 (4 * a1)) + 3)) then (if (wrap64 ((wrap64 (4 * a1)) + 3)) < (l0.length : Int) then (some ((((((((rd l0 (wrap64 (4 * a1))) % 4294967296) + ((256 * ((rd l0 (wrap64 ((wrap64 (4 * a1)) + 1))) % 4294967296)) % 4294967296)) % 4294967296) + ((65536 * ((rd l0 (wrap64 ((wrap64 (4 * a1)) + 2))) % 4294967296)) % 4294967296)) % 4294967296) + ((16777216 * ((rd l0 (wrap64 ((wrap64 (4 * a1)) + 3))) % 4294967296)) % 4294967296)) % 4294967296)) else (none)) else (none)) else (none)) else (none)) else (none)) else (none)) else (none)) else (none)) = some r := h
  clear h
  obtain ⟨ji3, hji3⟩ : ∃ j_ : Int, (wrap64 (4 * a1)) = j_ := ⟨_, rfl⟩
  replace H : (if 0 ≤ (ji3) then (if (ji3) < (l0.length : Int) then (if 0 ≤ (wrap64 ((ji3) + 1)) then (if (wrap64 ((ji3) + 1)) < (l0.length : Int) then (if 0 ≤ (wrap64 ((ji3) + 2)) then (if (wrap64 ((ji3) + 2)) < (l0.length : Int) then (if 0 ≤ (wrap64 ((ji3) + 3)) then (if (wrap64 ((ji3) + 3)) < (l0.length : Int) then (some ((((((((rd l0 (ji3)) % 4294967296) + ((256 * ((rd l0 (wrap64 ((ji3) + 1))) % 4294967296)) % 4294967296)) % 4294967296) + ((65536 * ((rd l0 (wrap64 ((ji3) + 2))) % 4294967296)) % 4294967296)) % 4294967296) + ((16777216 * ((rd l0 (wrap64 ((ji3) + 3))) % 4294967296)) % 4294967296)) % 4294967296)) else (none)) else (none)) else (none)) else (none)) else (none)) else (none)) else (none)) else (none)) = some r := by first | (rw [hji3] at H; exact H) | (simp only [hji3] at H ⊢; exact H)
  have hji3w : (IntKind.i64.wrap (4 * a1)) = ji3 := (i64_w _).trans hji3
  by_cases c4 : 0 ≤ (ji3)
  · rw [if_pos c4] at H
    have c4b0 : decide (0 ≤ (ji3)) = true := decide_eq_true c4
    clear c4
    by_cases c5 : (ji3) < (l0.length : Int)
    · rw [if_pos c5] at H
      have c5b0 : decide ((ji3) < (l0.length : Int)) = true := decide_eq_true c5
      clear c5
      obtain ⟨ji6, hji6⟩ : ∃ j_ : Int, (wrap64 ((ji3) + 1)) = j_ := ⟨_, rfl⟩
      replace H : (if 0 ≤ (ji6) then (if (ji6) < (l0.length : Int) then (if 0 ≤ (wrap64 ((ji3) + 2)) then (if (wrap64 ((ji3) + 2)) < (l0.length : Int) then (if 0 ≤ (wrap64 ((ji3) + 3)) then (if (wrap64 ((ji3) + 3)) < (l0.length : Int) then (some ((((((((rd l0 (ji3)) % 4294967296) + ((256 * ((rd l0 (ji6)) % 4294967296)) % 4294967296)) % 4294967296) + ((65536 * ((rd l0 (wrap64 ((ji3) + 2))) % 4294967296)) % 4294967296)) % 4294967296) + ((16777216 * ((rd l0 (wrap64 ((ji3) + 3))) % 4294967296)) % 4294967296)) % 4294967296)) else (none)) else (none)) else (none)) else (none)) else (none)) else (none)) = some r := by first | (rw [hji6] at H; exact H) | (simp only [hji6] at H ⊢; exact H)
      have hji6w : (IntKind.i64.wrap ((ji3) + 1)) = ji6 := (i64_w _).trans hji6
      by_cases c7 : 0 ≤ (ji6)
      · rw [if_pos c7] at H
        have c7b0 : decide (0 ≤ (ji6)) = true := decide_eq_true c7
        clear c7
        by_cases c8 : (ji6) < (l0.length : Int)
        · rw [if_pos c8] at H
          have c8b0 : decide ((ji6) < (l0.length : Int)) = true := decide_eq_true c8
          clear c8
          obtain ⟨ji9, hji9⟩ : ∃ j_ : Int, (wrap64 ((ji3) + 2)) = j_ := ⟨_, rfl⟩
          replace H : (if 0 ≤ (ji9) then (if (ji9) < (l0.length : Int) then (if 0 ≤ (wrap64 ((ji3) + 3)) then (if (wrap64 ((ji3) + 3)) < (l0.length : Int) then (some ((((((((rd l0 (ji3)) % 4294967296) + ((256 * ((rd l0 (ji6)) % 4294967296)) % 4294967296)) % 4294967296) + ((65536 * ((rd l0 (ji9)) % 4294967296)) % 4294967296)) % 4294967296) + ((16777216 * ((rd l0 (wrap64 ((ji3) + 3))) % 4294967296)) % 4294967296)) % 4294967296)) else (none)) else (none)) else (none)) else (none)) = some r := by first | (rw [hji9] at H; exact H) | (simp only [hji9] at H ⊢; exact H)
          have hji9w : (IntKind.i64.wrap ((ji3) + 2)) = ji9 := (i64_w _).trans hji9
          by_cases c10 : 0 ≤ (ji9)
          · rw [if_pos c10] at H
            have c10b0 : decide (0 ≤ (ji9)) = true := decide_eq_true c10
            clear c10
            by_cases c11 : (ji9) < (l0.length : Int)
            · rw [if_pos c11] at H
              have c11b0 : decide ((ji9) < (l0.length : Int)) = true := decide_eq_true c11
              clear c11
              obtain ⟨ji12, hji12⟩ : ∃ j_ : Int, (wrap64 ((ji3) + 3)) = j_ := ⟨_, rfl⟩
              replace H : (if 0 ≤ (ji12) then (if (ji12) < (l0.length : Int) then (some ((((((((rd l0 (ji3)) % 4294967296) + ((256 * ((rd l0 (ji6)) % 4294967296)) % 4294967296)) % 4294967296) + ((65536 * ((rd l0 (ji9)) % 4294967296)) % 4294967296)) % 4294967296) + ((16777216 * ((rd l0 (ji12)) % 4294967296)) % 4294967296)) % 4294967296)) else (none)) else (none)) = some r := by first | (rw [hji12] at H; exact H) | (simp only [hji12] at H ⊢; exact H)
              have hji12w : (IntKind.i64.wrap ((ji3) + 3)) = ji12 := (i64_w _).trans hji12
              by_cases c13 : 0 ≤ (ji12)
              · rw [if_pos c13] at H
                have c13b0 : decide (0 ≤ (ji12)) = true := decide_eq_true c13
                clear c13
                by_cases c14 : (ji12) < (l0.length : Int)
                · rw [if_pos c14] at H
                  have c14b0 : decide ((ji12) < (l0.length : Int)) = true := decide_eq_true c14
                  clear c14
                  obtain rfl := Option.some.inj H
                  have p134 : 0 ≤ ((ji3) : Int) := of_decide_eq_true (by first | (with_reducible assumption) | assumption)
                  have q134 : (ji3) < (l0.length : Int) := of_decide_eq_true (by first | (with_reducible assumption) | assumption)
                  obtain ⟨ad134, e134, hx134_0⟩ := Kd.at_int HR0.out (ji3) p134 q134
                  cases e134
                  replace p134 := eq_true p134
                  replace q134 := eq_true q134
                  have p135 : 0 ≤ ((ji6) : Int) := of_decide_eq_true (by first | (with_reducible assumption) | assumption)
                  have q135 : (ji6) < (l0.length : Int) := of_decide_eq_true (by first | (with_reducible assumption) | assumption)
                  obtain ⟨ad135, e135, hx135_0⟩ := Kd.at_int HR0.out (ji6) p135 q135
                  obtain rfl : ad134 = ad135 := (by injection e135)
                  replace p135 := eq_true p135
                  replace q135 := eq_true q135
                  have p136 : 0 ≤ ((ji9) : Int) := of_decide_eq_true (by first | (with_reducible assumption) | assumption)
                  have q136 : (ji9) < (l0.length : Int) := of_decide_eq_true (by first | (with_reducible assumption) | assumption)
                  obtain ⟨ad136, e136, hx136_0⟩ := Kd.at_int HR0.out (ji9) p136 q136
                  obtain rfl : ad134 = ad136 := (by injection e136)
                  replace p136 := eq_true p136
                  replace q136 := eq_true q136
                  have p137 : 0 ≤ ((ji12) : Int) := of_decide_eq_true (by first | (with_reducible assumption) | assumption)
                  have q137 : (ji12) < (l0.length : Int) := of_decide_eq_true (by first | (with_reducible assumption) | assumption)
                  obtain ⟨ad137, e137, hx137_0⟩ := Kd.at_int HR0.out (ji12) p137 q137
                  obtain rfl : ad134 = ad137 := (by injection e137)
                  replace p137 := eq_true p137
                  replace q137 := eq_true q137
                  go_enter Try.func27, Try.ntmps27
                  go_wp2
                  repeat (go_quiet (fail); try go_wp2)
                  go_ret
                  exact ⟨by first | rfl | (simp; done) | (simp only [← hji3, ← hji6, ← hji9, ← hji12] <;> (first | rfl | simp)) | (simp [*]; done), by repeat (first | exact Drawn0.refl _ | apply Drawn0.step)⟩
                · rw [if_neg c14] at H
                  exact absurd H (by simp)
              · rw [if_neg c13] at H
                exact absurd H (by simp)
            · rw [if_neg c11] at H
              exact absurd H (by simp)
          · rw [if_neg c10] at H
            exact absurd H (by simp)
        · rw [if_neg c8] at H
          exact absurd H (by simp)
      · rw [if_neg c7] at H
        exact absurd H (by simp)
    · rw [if_neg c5] at H
      exact absurd H (by simp)
  · rw [if_neg c4] at H
    exact absurd H (by simp)

/-! ### portreeveref02_far: function 28 -/
def portreeveref02_far.f (a0 : Int) : Option (Int) := (some (([7, 12, 17, 22, 5, 9, 14, 20, 4, 11, 16, 23, 6, 10, 15, 21] : List Int) : List Int)).bind fun y138 => (if 0 ≤ (wrap64 ((wrap64 ((wrap64 (Int.tdiv a0 16)) * 4)) + (Int.tmod a0 4))) then (if (wrap64 ((wrap64 ((wrap64 (Int.tdiv a0 16)) * 4)) + (Int.tmod a0 4))) < (y138.length : Int) then (some (rd y138 (wrap64 ((wrap64 ((wrap64 (Int.tdiv a0 16)) * 4)) + (Int.tmod a0 4))))) else (none)) else (none))
set_option maxHeartbeats 8000000 in
set_option maxRecDepth 100000 in
theorem portreeveref02_far.calls (a0 : Int) (r : Int) (w : World) (h : portreeveref02_far.f a0 = some r) :
    Calls Try.prog 28 #[.int .i64 a0] w fun e w' => e = .returned (.int .i64 r) ∧ Below w.heap.size w w' := by
  have HB := Aside0.mk (Below.refl w.heap.size w)
  have H : ((some (([7, 12, 17, 22, 5, 9, 14, 20, 4, 11, 16, 23, 6, 10, 15, 21] : List Int) : List Int)).bind fun y138 => (if 0 ≤ (wrap64 ((wrap64 ((wrap64 (Int.tdiv a0 16)) * 4)) + (Int.tmod a0 4))) then (if (wrap64 ((wrap64 ((wrap64 (Int.tdiv a0 16)) * 4)) + (Int.tmod a0 4))) < (y138.length : Int) then (some (rd y138 (wrap64 ((wrap64 ((wrap64 (Int.tdiv a0 16)) * 4)) + (Int.tmod a0 4))))) else (none)) else (none))) = some r := h
  clear h
  obtain ⟨y138, hy138⟩ : ∃ y_ : List Int, y_ = (([7, 12, 17, 22, 5, 9, 14, 20, 4, 11, 16, 23, 6, 10, 15, 21] : List Int)) := ⟨_, rfl⟩
  replace H : (if 0 ≤ (wrap64 ((wrap64 ((wrap64 (Int.tdiv a0 16)) * 4)) + (Int.tmod a0 4))) then (if (wrap64 ((wrap64 ((wrap64 (Int.tdiv a0 16)) * 4)) + (Int.tmod a0 4))) < (y138.length : Int) then (some (rd y138 (wrap64 ((wrap64 ((wrap64 (Int.tdiv a0 16)) * 4)) + (Int.tmod a0 4))))) else (none)) else (none)) = some r := by first | (rw [hy138]; with_reducible exact H) | (have H2_ := (Option.bind_some _ _).symm.trans H; rw [hy138]; with_reducible exact H2_) | (have H2_ := (Option.bind_some _ _).symm.trans H; with_reducible exact H2_) | with_reducible exact H | (rw [hy138]; exact H) | exact H
  have Ny138 := Aside0.mk hy138
  clear hy138
  obtain ⟨ji2, hji2⟩ : ∃ j_ : Int, (wrap64 ((wrap64 ((wrap64 (Int.tdiv a0 16)) * 4)) + (Int.tmod a0 4))) = j_ := ⟨_, rfl⟩
  replace H : (if 0 ≤ (ji2) then (if (ji2) < (y138.length : Int) then (some (rd y138 (ji2))) else (none)) else (none)) = some r := by first | (rw [hji2] at H; exact H) | (simp only [hji2] at H ⊢; exact H)
  have hji2w : (IntKind.i64.wrap ((wrap64 ((wrap64 (Int.tdiv a0 16)) * 4)) + (Int.tmod a0 4))) = ji2 := (i64_w _).trans hji2
  by_cases c3 : 0 ≤ (ji2)
  · rw [if_pos c3] at H
    have c3b0 : decide (0 ≤ (ji2)) = true := decide_eq_true c3
    clear c3
    by_cases c4 : (ji2) < (y138.length : Int)
    · rw [if_pos c4] at H
      have c4b0 : decide ((ji2) < (y138.length : Int)) = true := decide_eq_true c4
      clear c4
      obtain rfl := Option.some.inj H
      go_enter Try.func28, Try.ntmps28
      go_wp2_with (first | ((with_reducible refine gate_dst (N := 4) rfl ?_); refine Kd.R_lit (Kd.int .i64) _ 3 ?hg (N := 4) ?hd (xs := ([7, 12, 17, 22, 5, 9, 14, 20, 4, 11, 16, 23, 6, 10, 15, 21] : List Int)) (inner := [.int .i64 7, .int .i64 12, .int .i64 17, .int .i64 22, .int .i64 5, .int .i64 9, .int .i64 14, .int .i64 20, .int .i64 4, .int .i64 11, .int .i64 16, .int .i64 23, .int .i64 6, .int .i64 10, .int .i64 15, .int .i64 21]) (ok := fun _ => True) (okp := fun _ => True) ?hr ?hp (fun _ hk => hk) trivial (Below.refl _ _) (Nat.le_refl _) (by simp) ?_; (case hd => rfl); (case hg => rfl); (case hr => first | (go_simp; done) | (go_simp; rfl)); (case hp => exact (Reps.one (show Kd.M (Kd.int .i64) _ _ _ 7 [.int .i64 7] from rfl) (Reps.one (show Kd.M (Kd.int .i64) _ _ _ 12 [.int .i64 12] from rfl) (Reps.one (show Kd.M (Kd.int .i64) _ _ _ 17 [.int .i64 17] from rfl) (Reps.one (show Kd.M (Kd.int .i64) _ _ _ 22 [.int .i64 22] from rfl) (Reps.one (show Kd.M (Kd.int .i64) _ _ _ 5 [.int .i64 5] from rfl) (Reps.one (show Kd.M (Kd.int .i64) _ _ _ 9 [.int .i64 9] from rfl) (Reps.one (show Kd.M (Kd.int .i64) _ _ _ 14 [.int .i64 14] from rfl) (Reps.one (show Kd.M (Kd.int .i64) _ _ _ 20 [.int .i64 20] from rfl) (Reps.one (show Kd.M (Kd.int .i64) _ _ _ 4 [.int .i64 4] from rfl) (Reps.one (show Kd.M (Kd.int .i64) _ _ _ 11 [.int .i64 11] from rfl) (Reps.one (show Kd.M (Kd.int .i64) _ _ _ 16 [.int .i64 16] from rfl) (Reps.one (show Kd.M (Kd.int .i64) _ _ _ 23 [.int .i64 23] from rfl) (Reps.one (show Kd.M (Kd.int .i64) _ _ _ 6 [.int .i64 6] from rfl) (Reps.one (show Kd.M (Kd.int .i64) _ _ _ 10 [.int .i64 10] from rfl) (Reps.one (show Kd.M (Kd.int .i64) _ _ _ 15 [.int .i64 15] from rfl) (Reps.one (show Kd.M (Kd.int .i64) _ _ _ 21 [.int .i64 21] from rfl) (Reps.none _ _)))))))))))))))))); intro v139 w5 ho6 hb hg_ hnew_; clear hg_ hnew_; (first | rw [← Ny138.out] at ho6 | (simp only [Int.reduceToNat] at ho6; rw [← Ny138.out] at ho6)); have n0_ := Aside0.mk (Kd.R_lower ho6 (below_size (by repeat (first | (with_reducible first | exact HB.out | apply pA | apply pN | apply pD) | exact HB.out)))); have n1_ := Aside0.mk (below_step (by repeat (first | (with_reducible first | exact HB.out | apply pA | apply pN | apply pD) | exact HB.out)) hb); clear HB; have HO140 := n0_; have HB := n1_; clear n0_ n1_; clear hb ho6; obtain ⟨Ao7, co7, eo7⟩ := Kd.R_slice HO140.out; subst eo7; have p141 : 0 ≤ ((ji2) : Int) := of_decide_eq_true (by first | (with_reducible assumption) | assumption); have q141 : (ji2) < (y138.length : Int) := of_decide_eq_true (by first | (with_reducible assumption) | assumption); obtain ⟨ad141, e141, hx141_0⟩ := Kd.at_int (Kd.R_reads' HO140.out).2.2 (ji2) p141 q141; cases e141; replace p141 := eq_true p141; replace q141 := eq_true q141))
      go_ret
      exact ⟨by first | rfl | (simp [errW_none, errW_some] <;> rfl) | (simp only [← hji2]; first | rfl | (simp [errW_none, errW_some] <;> rfl)) | (simp [*, errW_none, errW_some] <;> rfl), by repeat (first | (with_reducible first | exact HB.out | apply pA | apply pN | apply pD) | exact HB.out)⟩
    · rw [if_neg c4] at H
      exact absurd H (by simp)
  · rw [if_neg c3] at H
    exact absurd H (by simp)

/-! ### portreeveref02_Block: function 15 -/
mutual
def portreeveref02_Block.l0 : Nat → List Int → Int → Int → Int → Int → Int → Int → Int → Int → Int → Option (Int × Int × Int × Int)
  | 0, _, _, _, _, _, _, _, _, _, _ => none
  | k + 1, x1, x5, x6, x7, x8, x9, x143000, x143001, x143002, x143003 => if x9 < 64 then (if x9 < 16 then (portreeveref02_Block.j1 k x1 x5 x6 x7 x8 x9 (Go.bits .or .u32 (Go.bits .and .u32 x6 x7) (Go.bits .and .u32 ((4294967295 - x6) % 4294967296) x8)) x9 x143000 x143001 x143002 x143003) else (if x9 < 32 then (portreeveref02_Block.j1 k x1 x5 x6 x7 x8 x9 (Go.bits .or .u32 (Go.bits .and .u32 x8 x6) (Go.bits .and .u32 ((4294967295 - x8) % 4294967296) x7)) (Int.tmod (wrap64 ((wrap64 (5 * x9)) + 1)) 16) x143000 x143001 x143002 x143003) else (if x9 < 48 then (portreeveref02_Block.j1 k x1 x5 x6 x7 x8 x9 (Go.bits .xor .u32 (Go.bits .xor .u32 x6 x7) x8) (Int.tmod (wrap64 ((wrap64 (3 * x9)) + 5)) 16) x143000 x143001 x143002 x143003) else (portreeveref02_Block.j1 k x1 x5 x6 x7 x8 x9 (Go.bits .xor .u32 x7 (Go.bits .or .u32 x6 ((4294967295 - x8) % 4294967296))) (Int.tmod (wrap64 (7 * x9)) 16) x143000 x143001 x143002 x143003)))) else (some ((x143000 + x5) % 4294967296, (x143001 + x6) % 4294967296, (x143002 + x7) % 4294967296, (x143003 + x8) % 4294967296))
def portreeveref02_Block.j1 : Nat → List Int → Int → Int → Int → Int → Int → Int → Int → Int → Int → Int → Int → Option (Int × Int × Int × Int)
  | 0, _, _, _, _, _, _, _, _, _, _, _, _ => none
  | k + 1, x1, x5, x6, x7, x8, x9, x10, x11, x143000, x143001, x143002, x143003 => (portreeveref02_k.f).bind fun t144 => (if 0 ≤ x9 then (if x9 < (t144.length : Int) then ((portreeveref02_at.f x1 x11).bind fun t148 => ((portreeveref02_far.f x9).bind fun t149 => ((portreeveref02_turn.f k ((((((x10 + x5) % 4294967296) + (rd t144 x9)) % 4294967296) + t148) % 4294967296) t149).bind fun t150 => (portreeveref02_Block.l0 k x1 x8 ((x6 + t150) % 4294967296) x6 x7 (wrap64 (x9 + 1)) x143000 x143001 x143002 x143003)))) else (none)) else (none))
end
def portreeveref02_Block.f (k : Nat) (a0_0 : Int) (a0_1 : Int) (a0_2 : Int) (a0_3 : Int) (l1 : List Int) : Option (Int × Int × Int × Int) := portreeveref02_Block.l0 k l1 a0_0 a0_1 a0_2 a0_3 0 a0_0 a0_1 a0_2 a0_3
theorem portreeveref02_Block.mono_l : ∀ k, (∀ y0 y1 y2 y3 y4 y5 y6 y7 y8 y9, LeO (portreeveref02_Block.l0 k y0 y1 y2 y3 y4 y5 y6 y7 y8 y9) (portreeveref02_Block.l0 (k + 1) y0 y1 y2 y3 y4 y5 y6 y7 y8 y9)) ∧ (∀ y0 y1 y2 y3 y4 y5 y6 y7 y8 y9 y10 y11, LeO (portreeveref02_Block.j1 k y0 y1 y2 y3 y4 y5 y6 y7 y8 y9 y10 y11) (portreeveref02_Block.j1 (k + 1) y0 y1 y2 y3 y4 y5 y6 y7 y8 y9 y10 y11))
  | 0 => ⟨fun _ _ _ _ _ _ _ _ _ _ r h => by simp [portreeveref02_Block.l0] at h, fun _ _ _ _ _ _ _ _ _ _ _ _ r h => by simp [portreeveref02_Block.j1] at h⟩
  | k + 1 => by
    obtain ⟨ih0, ih1⟩ := portreeveref02_Block.mono_l k
    refine ⟨?_, ?_⟩
    · intro y0 y1 y2 y3 y4 y5 y6 y7 y8 y9
      unfold portreeveref02_Block.l0
      repeat' first
      | (with_reducible exact ih0 _ _ _ _ _ _ _ _ _ _)
      | (with_reducible exact ih1 _ _ _ _ _ _ _ _ _ _ _ _)
      | (with_reducible exact portreeveref02_turn.mono _ _ _)
      | (with_reducible exact LeO.refl _)
      | (with_reducible exact LeO.none _)
      | (with_reducible refine LeO.ite ?_ ?_)
      | (with_reducible refine LeO.bind ?_ (fun _ => ?_))
      | exact ih0 _ _ _ _ _ _ _ _ _ _
      | exact ih1 _ _ _ _ _ _ _ _ _ _ _ _
      | exact portreeveref02_turn.mono _ _ _
      | exact LeO.none _
      | refine LeO.ite ?_ ?_
      | refine LeO.bind ?_ (fun _ => ?_)
    · intro y0 y1 y2 y3 y4 y5 y6 y7 y8 y9 y10 y11
      unfold portreeveref02_Block.j1
      repeat' first
      | (with_reducible exact ih0 _ _ _ _ _ _ _ _ _ _)
      | (with_reducible exact ih1 _ _ _ _ _ _ _ _ _ _ _ _)
      | (with_reducible exact portreeveref02_turn.mono _ _ _)
      | (with_reducible exact LeO.refl _)
      | (with_reducible exact LeO.none _)
      | (with_reducible refine LeO.ite ?_ ?_)
      | (with_reducible refine LeO.bind ?_ (fun _ => ?_))
      | exact ih0 _ _ _ _ _ _ _ _ _ _
      | exact ih1 _ _ _ _ _ _ _ _ _ _ _ _
      | exact portreeveref02_turn.mono _ _ _
      | exact LeO.none _
      | refine LeO.ite ?_ ?_
      | refine LeO.bind ?_ (fun _ => ?_)
theorem portreeveref02_Block.mono : ∀ a0 a1 a2 a3 a4 k, LeO (portreeveref02_Block.f k a0 a1 a2 a3 a4) (portreeveref02_Block.f (k + 1) a0 a1 a2 a3 a4) := by
  intro a0 a1 a2 a3 a4 k
  obtain ⟨ih0, ih1⟩ := portreeveref02_Block.mono_l k
  unfold portreeveref02_Block.f
  repeat' first
      | (with_reducible exact ih0 _ _ _ _ _ _ _ _ _ _)
      | (with_reducible exact ih1 _ _ _ _ _ _ _ _ _ _ _ _)
      | (with_reducible exact portreeveref02_turn.mono _ _ _)
      | (with_reducible exact LeO.refl _)
      | (with_reducible exact LeO.none _)
      | (with_reducible refine LeO.ite ?_ ?_)
      | (with_reducible refine LeO.bind ?_ (fun _ => ?_))
      | exact ih0 _ _ _ _ _ _ _ _ _ _
      | exact ih1 _ _ _ _ _ _ _ _ _ _ _ _
      | exact portreeveref02_turn.mono _ _ _
      | exact LeO.none _
      | refine LeO.ite ?_ ?_
      | refine LeO.bind ?_ (fun _ => ?_)
def portreeveref02_Block.T19 : Bool × List (List Nat × List Nat) := (true, [([], []), ([], []), ([], []), ([1, 2], [1, 2]), ([], []), ([], []), ([4, 5], [4, 5]), ([6], [6]), ([3, 7], [3, 7]), ([], []), ([], []), ([9, 10, 4], [9, 10]), ([8, 11], [8, 11]), ([], []), ([13, 11], [13]), ([12, 14, 14], [12, 14]), ([0, 15], [0, 15]), ([16, 15, 0, 1, 2, 3, 4, 5, 6, 7, 8, 9, 10, 11, 12, 13, 14, 15, 16], [16])])
def portreeveref02_Block.B19 : List Nat := [0, 0, 0, 6, 0, 0, 48, 112, 254, 0, 0, 1552, 4094, 0, 11792, 32766, 65535, 131071]
theorem portreeveref02_Block.tab19 : rtab .any (opsOf Try.f15 19) = portreeveref02_Block.T19 := by kernel_rfl
theorem portreeveref02_Block.bits19 : waitsOk portreeveref02_Block.T19.2 portreeveref02_Block.B19 = true := by kernel_rfl
set_option maxHeartbeats 8000000 in
set_option maxRecDepth 100000 in
theorem portreeveref02_Block.calls (k : Nat) (a0_0 : Int) (a0_1 : Int) (a0_2 : Int) (a0_3 : Int) (A1 : Option Addr) (c1 : Nat) (l1 : List Int) (r1 : Int) (r2 : Int) (r3 : Int) (r4 : Int) (w : World) (hr1 : Kd.C (Kd.int .u8) w A1 l1.length l1) (hc1 : l1.length ≤ c1) (h : portreeveref02_Block.f k a0_0 a0_1 a0_2 a0_3 l1 = some (r1, r2, r3, r4)) :
    Calls Try.prog 15 #[.agg #[.int .u32 a0_0, .int .u32 a0_1, .int .u32 a0_2, .int .u32 a0_3], .slice A1 l1.length c1] w fun e w' => e = .returned (.agg #[.int .u32 r1, .int .u32 r2, .int .u32 r3, .int .u32 r4]) ∧ Below w.heap.size w w' := by
  have hu24 := Try.underlying24
  have HR1 := Aside0.mk hr1
  have HC1 := Aside0.mk hc1
  clear hr1 hc1
  have HB := Aside0.mk (Below.refl w.heap.size w)
  have H : (portreeveref02_Block.l0 k l1 a0_0 a0_1 a0_2 a0_3 0 a0_0 a0_1 a0_2 a0_3) = some (r1, r2, r3, r4) := h
  clear h
  have H' := Aside0.mk H
  clear H
  go_enter Try.func15, Try.ntmps15
  go_wp2_with (first | ((with_reducible refine gate_dst (N := 2) rfl ?_); refine box_event ?hg (N := 2) ?hd (cs := #[.int .u32 a0_0, .int .u32 a0_1, .int .u32 a0_2, .int .u32 a0_3]) (t := 24) ?hr ?_; (case hd => rfl); (case hg => rfl); (case hr => first | (go_simp; done) | (go_simp; rfl)); intro gb142 hg w3 hbox hb; have n0_ := Aside0.mk (below_step (by repeat (first | (with_reducible first | exact HB.out | apply pA | apply pN | apply pD) | exact HB.out)) hb); have n1_ := Aside0.mk (hbox); have n2_ := Aside0.mk ((by rw [hg]; exact (below_size (by repeat (first | (with_reducible first | exact HB.out | apply pA | apply pN | apply pD) | exact HB.out))) : w.heap.size ≤ gb142)); have n3_ := Aside0.mk ((by rw [hg]; exact (below_size (by repeat (first | (with_reducible first | exact HB.out | apply pA | apply pN | apply pD) | exact HB.out))) : w.heap.size ≤ gb142)); clear HB; have HB := n0_; have BK142 := n1_; have GW142 := n2_; have GE142 := n3_; clear n0_ n1_ n2_ n3_; clear hb hbox hg) | ((with_reducible refine gate_dst (N := 4) rfl ?_); refine box_event ?hg (N := 4) ?hd (cs := #[.int .u32 0, .int .u32 0, .int .u32 0, .int .u32 0]) (t := 24) ?hr ?_; (case hd => rfl); (case hg => rfl); (case hr => first | (go_simp; done) | (go_simp; rfl)); intro gb143 hg w4 hbox hb; have n0_ := Aside0.mk (blk_below (g := gb142) (o := .cells #[.int .u32 a0_0, .int .u32 a0_1, .int .u32 a0_2, .int .u32 a0_3] 24 (0, 0)) (by (with_reducible repeat (first | refine qN ?_ _ | refine qD ?_ | refine qA ?_ _)); exact BK142.out) hb); have n1_ := Aside0.mk (below_step (by repeat (first | (with_reducible first | exact HB.out | apply pA | apply pN | apply pD | refine pS ?_ GE142.out) | exact HB.out)) hb); have n2_ := Aside0.mk (hbox); have n3_ := Aside0.mk ((by rw [hg]; exact (below_size (by repeat (first | (with_reducible first | exact HB.out | apply pA | apply pN | apply pD | refine pS ?_ GE142.out) | exact HB.out))) : w.heap.size ≤ gb143)); have n4_ := Aside0.mk ((by rw [hg]; exact (below_size (by repeat (first | (with_reducible first | exact HB.out | apply pA | apply pN | apply pD | refine pS ?_ GE142.out) | exact HB.out))) : w.heap.size ≤ gb143)); have n5_ := Aside0.mk ((by rw [hg]; exact Nat.ne_of_lt (blk_lt (g := gb142) (o := .cells #[.int .u32 a0_0, .int .u32 a0_1, .int .u32 a0_2, .int .u32 a0_3] 24 (0, 0)) (by (with_reducible repeat (first | refine qN ?_ _ | refine qD ?_ | refine qA ?_ _)); exact BK142.out)) : gb142 ≠ gb143)); have n6_ := Aside0.mk ((by rw [hg]; exact Nat.ne_of_gt (blk_lt (g := gb142) (o := .cells #[.int .u32 a0_0, .int .u32 a0_1, .int .u32 a0_2, .int .u32 a0_3] 24 (0, 0)) (by (with_reducible repeat (first | refine qN ?_ _ | refine qD ?_ | refine qA ?_ _)); exact BK142.out)) : gb143 ≠ gb142)); clear BK142; clear HB; have BK142 := n0_; have HB := n1_; have BK143 := n2_; have GW143 := n3_; have GE143 := n4_; have NB142_143 := n5_; have NB143_142 := n6_; clear n0_ n1_ n2_ n3_ n4_ n5_ n6_; clear hb hbox hg; have hnb5 := NB142_143.out; have hnc5 := NB143_142.out; have hcz6_0 : w4.cell? ⟨gb142, 0, none⟩ = some (.int .u32 a0_0) := (blk_cell BK142.out 0).trans rfl; have hcz6_1 : w4.cell? ⟨gb142, 1, none⟩ = some (.int .u32 a0_1) := (blk_cell BK142.out 1).trans rfl; have hcz6_2 : w4.cell? ⟨gb142, 2, none⟩ = some (.int .u32 a0_2) := (blk_cell BK142.out 2).trans rfl; have hcz6_3 : w4.cell? ⟨gb142, 3, none⟩ = some (.int .u32 a0_3) := (blk_cell BK142.out 3).trans rfl; have hfz6_0 := blk_frozen BK142.out 0; have hfz6_1 := blk_frozen BK142.out 1; have hfz6_2 := blk_frozen BK142.out 2; have hfz6_3 := blk_frozen BK142.out 3))
  go_loopg [5, 6, 7, 8, 9] k (fun kq v5 v6 v7 v8 v9 w' => ∃ (x5_1 : Int) (x6_1 : Int) (x7_1 : Int) (x8_1 : Int) (x9_1 : Int), v5 = .int .u32 x5_1 ∧ v6 = .int .u32 x6_1 ∧ v7 = .int .u32 x7_1 ∧ v8 = .int .u32 x8_1 ∧ v9 = .int .i64 x9_1 ∧ Aside0 (portreeveref02_Block.l0 kq l1 x5_1 x6_1 x7_1 x8_1 x9_1 a0_0 a0_1 a0_2 a0_3 = some (r1, r2, r3, r4)) ∧ Aside0 (kq ≤ k) ∧ Aside0 (w'.heap[gb142]? = some (.cells #[.int .u32 a0_0, .int .u32 a0_1, .int .u32 a0_2, .int .u32 a0_3] 24 (0, 0))) ∧ Aside0 (w'.heap[gb143]? = some (.cells #[.int .u32 0, .int .u32 0, .int .u32 0, .int .u32 0] 24 (0, 0))) ∧ Aside0 (Below w.heap.size w w'))
  case atStart => exact ⟨(a0_0), (a0_1), (a0_2), (a0_3), (0), (by first | rfl | (simp; done) | (simp [*]; done)), (by first | rfl | (simp; done) | (simp [*]; done)), (by first | rfl | (simp; done) | (simp [*]; done)), (by first | rfl | (simp; done) | (simp [*]; done)), (by first | rfl | (simp; done) | (simp [*]; done)), H', ⟨Nat.le_refl _⟩, ⟨by (with_reducible repeat (first | refine qN ?_ _ | refine qD ?_ | refine qA ?_ _)); exact BK142.out⟩, ⟨by (with_reducible repeat (first | refine qN ?_ _ | refine qD ?_ | refine qA ?_ _)); exact BK143.out⟩, ⟨by repeat (first | (with_reducible first | exact HB.out | apply pA | apply pN | apply pD | refine pS ?_ GE142.out | refine pS ?_ GE143.out) | exact HB.out)⟩⟩
  case round =>
    clear H'
    try clear c1
    try clear p2
    try clear c5
    try clear hcz6_0
    try clear hcz6_1
    try clear hcz6_2
    try clear hcz6_3
    try clear hfz6_0
    try clear hfz6_1
    try clear hfz6_2
    try clear hfz6_3
    obtain ⟨x5_1, x6_1, x7_1, x8_1, x9_1, rfl, rfl, rfl, rfl, rfl, HA, HK1, BK142, BK143, HB⟩ := hrel
    cases gk with
    | zero => exact absurd HA.out (by simp [portreeveref02_Block.l0])
    | succ k1 =>
      have H := HA.out
      clear HA
      simp only [portreeveref02_Block.l0] at H
      by_cases c7 : x9_1 < 64
      · rw [if_pos c7] at H
        have c7b0 : decide (x9_1 < 64) = true := decide_eq_true c7
        clear c7
        have HC8 := Aside0.mk H
        clear H
        go_upto_if 35 with (fail)
        go_cut [10, 11] (fun v10 v11 wc => ∃ (kq : Nat) (x10_7 : Int) (x11_7 : Int), v10 = .int .u32 x10_7 ∧ v11 = .int .i64 x11_7 ∧ Aside0 (portreeveref02_Block.j1 kq l1 x5_1 x6_1 x7_1 x8_1 x9_1 x10_7 x11_7 a0_0 a0_1 a0_2 a0_3 = some (r1, r2, r3, r4)) ∧ Aside0 (kq ≤ k1) ∧ Aside0 (wc.heap[gb142]? = some (.cells #[.int .u32 a0_0, .int .u32 a0_1, .int .u32 a0_2, .int .u32 a0_3] 24 (0, 0))) ∧ Aside0 (wc.heap[gb143]? = some (.cells #[.int .u32 0, .int .u32 0, .int .u32 0, .int .u32 0] 24 (0, 0))) ∧ Aside0 (Below w.heap.size w wc))
        case first =>
          have H := HC8.out
          clear HC8
          by_cases c9 : x9_1 < 16
          · rw [if_pos c9] at H
            have c9b0 : decide (x9_1 < 16) = true := decide_eq_true c9
            clear c9
            (first | rw [c9b0] | (simp only [i64_w, i32_w]; rw [c9b0]) | skip)
            have H' := Aside0.mk H
            clear H
            go_wp2
            go_meet
            case rel => exact ⟨_, (Go.bits .or .u32 (Go.bits .and .u32 x6_1 x7_1) (Go.bits .and .u32 ((4294967295 - x6_1) % 4294967296) x8_1)), (x9_1), (by first | rfl | (simp; done) | (simp [*]; done)), (by first | rfl | (simp; done) | (simp [*]; done)), H', ⟨by have := HK1.out; first | omega | exact Nat.le_refl _⟩, ⟨by (with_reducible repeat (first | refine qN ?_ _ | refine qD ?_ | refine qA ?_ _)); exact BK142.out⟩, ⟨by (with_reducible repeat (first | refine qN ?_ _ | refine qD ?_ | refine qA ?_ _)); exact BK143.out⟩, ⟨by repeat (first | (with_reducible first | exact HB.out | apply pA | apply pN | apply pD | refine pS ?_ GE142.out | refine pS ?_ GE143.out) | exact HB.out)⟩⟩
          · rw [if_neg c9] at H
            have c9b0 : decide (x9_1 < 16) = false := decide_eq_false c9
            clear c9
            (first | rw [c9b0] | (simp only [i64_w, i32_w]; rw [c9b0]) | skip)
            by_cases c10 : x9_1 < 32
            · rw [if_pos c10] at H
              have c10b0 : decide (x9_1 < 32) = true := decide_eq_true c10
              clear c10
              have H' := Aside0.mk H
              clear H
              go_wp2
              go_meet
              case rel => exact ⟨_, (Go.bits .or .u32 (Go.bits .and .u32 x8_1 x6_1) (Go.bits .and .u32 ((4294967295 - x8_1) % 4294967296) x7_1)), (Int.tmod (wrap64 ((wrap64 (5 * x9_1)) + 1)) 16), (by first | rfl | (simp; done) | (simp [*]; done)), (by first | rfl | (simp; done) | (simp [*]; done)), H', ⟨by have := HK1.out; first | omega | exact Nat.le_refl _⟩, ⟨by (with_reducible repeat (first | refine qN ?_ _ | refine qD ?_ | refine qA ?_ _)); exact BK142.out⟩, ⟨by (with_reducible repeat (first | refine qN ?_ _ | refine qD ?_ | refine qA ?_ _)); exact BK143.out⟩, ⟨by repeat (first | (with_reducible first | exact HB.out | apply pA | apply pN | apply pD | refine pS ?_ GE142.out | refine pS ?_ GE143.out) | exact HB.out)⟩⟩
            · rw [if_neg c10] at H
              have c10b0 : decide (x9_1 < 32) = false := decide_eq_false c10
              clear c10
              by_cases c11 : x9_1 < 48
              · rw [if_pos c11] at H
                have c11b0 : decide (x9_1 < 48) = true := decide_eq_true c11
                clear c11
                have H' := Aside0.mk H
                clear H
                go_wp2
                go_meet
                case rel => exact ⟨_, (Go.bits .xor .u32 (Go.bits .xor .u32 x6_1 x7_1) x8_1), (Int.tmod (wrap64 ((wrap64 (3 * x9_1)) + 5)) 16), (by first | rfl | (simp; done) | (simp [*]; done)), (by first | rfl | (simp; done) | (simp [*]; done)), H', ⟨by have := HK1.out; first | omega | exact Nat.le_refl _⟩, ⟨by (with_reducible repeat (first | refine qN ?_ _ | refine qD ?_ | refine qA ?_ _)); exact BK142.out⟩, ⟨by (with_reducible repeat (first | refine qN ?_ _ | refine qD ?_ | refine qA ?_ _)); exact BK143.out⟩, ⟨by repeat (first | (with_reducible first | exact HB.out | apply pA | apply pN | apply pD | refine pS ?_ GE142.out | refine pS ?_ GE143.out) | exact HB.out)⟩⟩
              · rw [if_neg c11] at H
                have c11b0 : decide (x9_1 < 48) = false := decide_eq_false c11
                clear c11
                have H' := Aside0.mk H
                clear H
                go_wp2
                go_meet
                case rel => exact ⟨_, (Go.bits .xor .u32 x7_1 (Go.bits .or .u32 x6_1 ((4294967295 - x8_1) % 4294967296))), (Int.tmod (wrap64 (7 * x9_1)) 16), (by first | rfl | (simp; done) | (simp [*]; done)), (by first | rfl | (simp; done) | (simp [*]; done)), H', ⟨by have := HK1.out; first | omega | exact Nat.le_refl _⟩, ⟨by (with_reducible repeat (first | refine qN ?_ _ | refine qD ?_ | refine qA ?_ _)); exact BK142.out⟩, ⟨by (with_reducible repeat (first | refine qN ?_ _ | refine qD ?_ | refine qA ?_ _)); exact BK143.out⟩, ⟨by repeat (first | (with_reducible first | exact HB.out | apply pA | apply pN | apply pD | refine pS ?_ GE142.out | refine pS ?_ GE143.out) | exact HB.out)⟩⟩
        case rest =>
          clear HC8
          try clear c1
          try clear p2
          try clear c5
          try clear p6
          try clear c7
          try clear c7b0
          try clear c9
          try clear c9b0
          try clear c10
          try clear c10b0
          try clear c11
          try clear c11b0
          try clear hcz6_0
          try clear hcz6_1
          try clear hcz6_2
          try clear hcz6_3
          try clear hfz6_0
          try clear hfz6_1
          try clear hfz6_2
          try clear hfz6_3
          try clear p2
          obtain ⟨kq, x10_7, x11_7, rfl, rfl, HA, HJ7, BK142, BK143, HB⟩ := hcut
          cases kq with
          | zero => exact absurd HA.out (by simp [portreeveref02_Block.j1])
          | succ kj7 =>
            have H := HA.out
            clear HA
            simp only [portreeveref02_Block.j1] at H
            replace H := Option.bind_eq_some_iff.mp H
            obtain ⟨t144, A120, H⟩ := H
            replace H : (if 0 ≤ x9_1 then (if x9_1 < (t144.length : Int) then ((portreeveref02_at.f l1 x11_7).bind fun t148 => ((portreeveref02_far.f x9_1).bind fun t149 => ((portreeveref02_turn.f kj7 ((((((x10_7 + x5_1) % 4294967296) + (rd t144 x9_1)) % 4294967296) + t148) % 4294967296) t149).bind fun t150 => (portreeveref02_Block.l0 kj7 l1 x8_1 ((x6_1 + t150) % 4294967296) x6_1 x7_1 (wrap64 (x9_1 + 1)) a0_0 a0_1 a0_2 a0_3)))) else (none)) else (none)) = some (r1, r2, r3, r4) := H
            have A12 := Aside0.mk A120
            clear A120
            by_cases c13 : 0 ≤ x9_1
            · rw [if_pos c13] at H
              have c13b0 : decide (0 ≤ x9_1) = true := decide_eq_true c13
              clear c13
              by_cases c14 : x9_1 < (t144.length : Int)
              · rw [if_pos c14] at H
                have c14b0 : decide (x9_1 < (t144.length : Int)) = true := decide_eq_true c14
                clear c14
                replace H := Option.bind_eq_some_iff.mp H
                obtain ⟨t148, A150, H⟩ := H
                replace H : ((portreeveref02_far.f x9_1).bind fun t149 => ((portreeveref02_turn.f kj7 ((((((x10_7 + x5_1) % 4294967296) + (rd t144 x9_1)) % 4294967296) + t148) % 4294967296) t149).bind fun t150 => (portreeveref02_Block.l0 kj7 l1 x8_1 ((x6_1 + t150) % 4294967296) x6_1 x7_1 (wrap64 (x9_1 + 1)) a0_0 a0_1 a0_2 a0_3))) = some (r1, r2, r3, r4) := H
                have A15 := Aside0.mk A150
                clear A150
                replace H := Option.bind_eq_some_iff.mp H
                obtain ⟨t149, A160, H⟩ := H
                replace H : ((portreeveref02_turn.f kj7 ((((((x10_7 + x5_1) % 4294967296) + (rd t144 x9_1)) % 4294967296) + t148) % 4294967296) t149).bind fun t150 => (portreeveref02_Block.l0 kj7 l1 x8_1 ((x6_1 + t150) % 4294967296) x6_1 x7_1 (wrap64 (x9_1 + 1)) a0_0 a0_1 a0_2 a0_3)) = some (r1, r2, r3, r4) := H
                have A16 := Aside0.mk A160
                clear A160
                replace H := Option.bind_eq_some_iff.mp H
                obtain ⟨t150, A170, H⟩ := H
                replace H : (portreeveref02_Block.l0 kj7 l1 x8_1 ((x6_1 + t150) % 4294967296) x6_1 x7_1 (wrap64 (x9_1 + 1)) a0_0 a0_1 a0_2 a0_3) = some (r1, r2, r3, r4) := H
                have A17 := Aside0.mk A170
                clear A170
                have H' := Aside0.mk H
                clear H
                try go_wp2
                have n0_ := Aside0.mk (qD BK142.out)
                have n1_ := Aside0.mk (qD BK143.out)
                have n2_ := Aside0.mk (pD HB.out)
                clear BK142
                clear BK143
                clear HB
                have BK142 := n0_
                have BK143 := n1_
                have HB := n2_
                clear n0_ n1_ n2_
                refine start_ (n := 18) (S := fun _ => True) (ds := []) #[false, false, false, false, false, false, false, false, false, false, false, false, false, false, false, false, false, false] (by kernel_rfl) rfl rfl trivial (fun _ => ?_); refine with_tabW portreeveref02_Block.tab19 portreeveref02_Block.bits19 (fun HT_ HW_ => ?_)
                generalize wc.drew = w18 at BK142 BK143 HB ⊢
                refine pure_ (i := 0) (N := some 70) (v := ?_) (a' := ?_) #[true, false, false, false, false, false, false, false, false, false, false, false, false, false, false, false, false, false] rfl rfl (any_of HT_.out (by kernel_rfl)) (fun _ _ _ h => h) (Or.inl ⟨by rfl, ?_⟩) ?_ ?_
                rotate_left
                · intro w'
                  go_simp
                  with_reducible rfl
                rotate_left
                · simp only [Act.put, List.setIfInBounds_toArray, List.set_cons_zero, List.set_cons_succ, i64_w, i32_w]
                  rfl
                refine pure_ (i := 1) (N := some 71) (v := ?_) (a' := ?_) #[true, true, false, false, false, false, false, false, false, false, false, false, false, false, false, false, false, false] rfl rfl (any_of HT_.out (by kernel_rfl)) (fun _ _ _ h => h) (Or.inl ⟨by rfl, ?_⟩) ?_ ?_
                rotate_left
                · intro w'
                  go_simp
                  with_reducible rfl
                rotate_left
                · simp only [Act.put, List.setIfInBounds_toArray, List.set_cons_zero, List.set_cons_succ, i64_w, i32_w]
                  rfl
                refine pure_ (i := 2) (N := some 72) (v := ?_) (a' := ?_) #[true, true, true, false, false, false, false, false, false, false, false, false, false, false, false, false, false, false] rfl rfl (any_of HT_.out (by kernel_rfl)) (fun _ _ _ h => h) (Or.inl ⟨by rfl, ?_⟩) ?_ ?_
                rotate_left
                · intro w'
                  go_simp
                  with_reducible rfl
                rotate_left
                · simp only [Act.put, List.setIfInBounds_toArray, List.set_cons_zero, List.set_cons_succ, i64_w, i32_w]
                  rfl
                refine pure_ (i := 3) (N := some 73) (v := ?_) (a' := ?_) #[true, true, true, true, false, false, false, false, false, false, false, false, false, false, false, false, false, false] rfl rfl (any_of HT_.out (by kernel_rfl)) (fun _ _ _ h => h) (Or.inl ⟨by rfl, ?_⟩) ?_ ?_
                rotate_left
                · intro w'
                  go_simp
                  with_reducible rfl
                rotate_left
                · simp only [Act.put, List.setIfInBounds_toArray, List.set_cons_zero, List.set_cons_succ, i64_w, i32_w]
                  rfl
                refine pure_ (i := 5) (N := some 75) (v := ?_) (a' := ?_) #[true, true, true, true, false, true, false, false, false, false, false, false, false, false, false, false, false, false] rfl rfl (any_of HT_.out (by kernel_rfl)) (fun _ _ _ h => h) (Or.inl ⟨by rfl, ?_⟩) ?_ ?_
                rotate_left
                · intro w'
                  go_simp
                  with_reducible rfl
                rotate_left
                · simp only [Act.put, List.setIfInBounds_toArray, List.set_cons_zero, List.set_cons_succ, i64_w, i32_w]
                  rfl
                refine pure_ (i := 9) (N := some 79) (v := ?_) (a' := ?_) #[true, true, true, true, false, true, false, false, false, true, false, false, false, false, false, false, false, false] rfl rfl (any_of HT_.out (by kernel_rfl)) (fun _ _ _ h => h) (Or.inl ⟨by rfl, ?_⟩) ?_ ?_
                rotate_left
                · intro w'
                  go_simp
                  with_reducible rfl
                rotate_left
                · simp only [Act.put, List.setIfInBounds_toArray, List.set_cons_zero, List.set_cons_succ, i64_w, i32_w]
                  rfl
                refine pure_ (i := 10) (N := some 80) (v := ?_) (a' := ?_) #[true, true, true, true, false, true, false, false, false, true, true, false, false, false, false, false, false, false] rfl rfl (any_of HT_.out (by kernel_rfl)) (fun _ _ _ h => h) (Or.inl ⟨by rfl, ?_⟩) ?_ ?_
                rotate_left
                · intro w'
                  go_simp
                  with_reducible rfl
                rotate_left
                · simp only [Act.put, List.setIfInBounds_toArray, List.set_cons_zero, List.set_cons_succ, i64_w, i32_w]
                  rfl
                refine pure_ (i := 13) (N := some 83) (v := ?_) (a' := ?_) #[true, true, true, true, false, true, false, false, false, true, true, false, false, true, false, false, false, false] rfl rfl (any_of HT_.out (by kernel_rfl)) (fun _ _ _ h => h) (Or.inl ⟨by rfl, ?_⟩) ?_ ?_
                rotate_left
                · intro w'
                  go_simp
                  with_reducible rfl
                rotate_left
                · simp only [Act.put, List.setIfInBounds_toArray, List.set_cons_zero, List.set_cons_succ, i64_w, i32_w]
                  rfl
                refine one_ (i := 4) (N := some 74) #[true, true, true, true, true, true, false, false, false, true, true, false, false, true, false, false, false, false] rfl rfl (one_of HT_.out (by kernel_rfl)) (by decide) (fun K hK => ?_)
                refine goes_ Try.func26 (by kernel_rfl) rfl #[] (by rfl) rfl rfl (by (try simp only [List.map_toArray, List.map_cons, List.map_nil]); first | done | rfl | (simp only [List.length_drop, List.length_take]; rfl)) ?_
                with_reducible refine (portreeveref02_k.calls  t144 _ A12.out).mono ?_
                rintro e w19 ⟨v145, rfl, ho0, hb⟩
                skip
                refine ⟨_, rfl, ?_⟩
                have n0_ := Aside0.mk (Kd.R_lower ho0 (below_size (by repeat (first | (with_reducible first | exact HB.out | apply pA | apply pN | apply pD | refine pS ?_ GE142.out | refine pS ?_ GE143.out) | exact HB.out))))
                have n1_ := Aside0.mk (blk_below (g := gb142) (o := .cells #[.int .u32 a0_0, .int .u32 a0_1, .int .u32 a0_2, .int .u32 a0_3] 24 (0, 0)) (by (with_reducible repeat (first | refine qN ?_ _ | refine qD ?_ | refine qA ?_ _)); exact BK142.out) hb)
                have n2_ := Aside0.mk (blk_below (g := gb143) (o := .cells #[.int .u32 0, .int .u32 0, .int .u32 0, .int .u32 0] 24 (0, 0)) (by (with_reducible repeat (first | refine qN ?_ _ | refine qD ?_ | refine qA ?_ _)); exact BK143.out) hb)
                have n3_ := Aside0.mk (below_step (by repeat (first | (with_reducible first | exact HB.out | apply pA | apply pN | apply pD | refine pS ?_ GE142.out | refine pS ?_ GE143.out) | exact HB.out)) hb)
                clear BK142
                clear BK143
                clear HB
                have HO146 := n0_
                have BK142 := n1_
                have BK143 := n2_
                have HB := n3_
                clear n0_ n1_ n2_ n3_
                (try clear hb)
                (try clear hb2)
                (try clear hk)
                (try clear hi)
                (try clear ho0)
                obtain ⟨Ao20, co20, eo20⟩ := Kd.R_slice HO146.out
                (first | subst eo20 | (injection eo20 with f1_ f2_ f3_; have f4_ := f1_.symm; have f5_ := f3_.symm; clear f1_ f2_ f3_; subst f4_; subst f5_))
                have p147 : 0 ≤ (x9_1 : Int) := of_decide_eq_true (by first | (with_reducible assumption) | assumption)
                have q147 : x9_1 < (t144.length : Int) := of_decide_eq_true (by first | (with_reducible assumption) | assumption)
                obtain ⟨ad147, e147, hx147_0⟩ := Kd.at_int (Kd.R_reads' HO146.out).2.2 x9_1 p147 q147
                cases e147
                replace p147 := eq_true p147
                replace q147 := eq_true q147
                refine hK.out _ _ trivial (fun _ => ?_)
                clear hK K
                refine norm_ (a' := ?_) ?_ ?_
                rotate_left
                · show Act.put _ (some 74) _ = _
                  simp only [Act.put, List.setIfInBounds_toArray, List.set_cons_zero, List.set_cons_succ, i64_w, i32_w]
                  rfl
                refine weak_ (fun w' => w'.cell? (ad147.add (x9_1).toNat) = some (.int .u32 (rd t144 x9_1))) ?_
                have hHeld := hx147_0
                refine pure_ (i := 6) (N := some 76) (v := ?_) (a' := ?_) #[true, true, true, true, true, true, true, false, false, true, true, false, false, true, false, false, false, false] rfl rfl (any_of HT_.out (by kernel_rfl)) (fun _ _ _ h => h) (Or.inl ⟨by rfl, ?_⟩) ?_ ?_
                rotate_left
                · intro w'
                  go_simp
                  with_reducible rfl
                rotate_left
                · simp only [Act.put, List.setIfInBounds_toArray, List.set_cons_zero, List.set_cons_succ, i64_w, i32_w]
                  rfl
                refine take_ (i := 7) (N := some 77) (v := ?_) (a' := ?_) #[true, true, true, true, true, true, true, true, false, true, true, false, false, true, false, false, false, false] rfl rfl (take_ofW HT_.out HW_.out (by kernel_rfl)) (fun _ _ _ h => h) (Or.inl ⟨by rfl, ?_⟩) hHeld ?_ ?_
                rotate_left
                · intro w' s0
                  go_simp
                  with_reducible rfl
                rotate_left
                · simp only [Act.put, List.setIfInBounds_toArray, List.set_cons_zero, List.set_cons_succ, i64_w, i32_w]
                  rfl
                refine pure_ (i := 8) (N := some 78) (v := ?_) (a' := ?_) #[true, true, true, true, true, true, true, true, true, true, true, false, false, true, false, false, false, false] rfl rfl (any_of HT_.out (by kernel_rfl)) (fun _ _ _ h => h) (Or.inl ⟨by rfl, ?_⟩) ?_ ?_
                rotate_left
                · intro w'
                  go_simp
                  with_reducible rfl
                rotate_left
                · simp only [Act.put, List.setIfInBounds_toArray, List.set_cons_zero, List.set_cons_succ, i64_w, i32_w]
                  rfl
                refine one_ (i := 11) (N := some 81) #[true, true, true, true, true, true, true, true, true, true, true, true, false, true, false, false, false, false] rfl rfl (one_of HT_.out (by kernel_rfl)) (by decide) (fun K hK => ?_)
                refine goes_ Try.func27 (by kernel_rfl) rfl #[.slice A1 l1.length c1, .int .i64 x11_7] (by rfl) rfl rfl (by (try simp only [List.map_toArray, List.map_cons, List.map_nil]); first | done | rfl | (simp only [List.length_drop, List.length_take]; rfl)) ?_
                with_reducible refine (portreeveref02_at.calls _ _ l1 x11_7 t148 _ ?side1 ?side2 A15.out).mono ?_
                (case side1 => repeat (first | exact (Kd.C_below HR1.out HB.out) | (with_reducible refine Kd.C_alloc ?_ _) | (with_reducible refine Kd.C_drewN ?_ _) | (with_reducible refine Kd.C_drew ?_)))
                (case side2 => exact HC1.out)
                rintro e w' ⟨rfl, ⟨nd, rfl⟩⟩
                refine ⟨_, rfl, ?_⟩
                refine hK.out _ _ (hHeld) (fun hHeld => ?_)
                clear hK K
                refine norm_ (a' := ?_) ?_ ?_
                rotate_left
                · show Act.put _ (some 81) _ = _
                  simp only [Act.put, List.setIfInBounds_toArray, List.set_cons_zero, List.set_cons_succ, i64_w, i32_w]
                  rfl
                refine pure_ (i := 12) (N := some 82) (v := ?_) (a' := ?_) #[true, true, true, true, true, true, true, true, true, true, true, true, true, true, false, false, false, false] rfl rfl (any_of HT_.out (by kernel_rfl)) (fun _ _ _ h => h) (Or.inl ⟨by rfl, ?_⟩) ?_ ?_
                rotate_left
                · intro w'
                  go_simp
                  with_reducible rfl
                rotate_left
                · simp only [Act.put, List.setIfInBounds_toArray, List.set_cons_zero, List.set_cons_succ, i64_w, i32_w]
                  rfl
                refine one_ (i := 14) (N := some 84) #[true, true, true, true, true, true, true, true, true, true, true, true, true, true, true, false, false, false] rfl rfl (one_of HT_.out (by kernel_rfl)) (by decide) (fun K hK => ?_)
                refine goes_ Try.func28 (by kernel_rfl) rfl #[.int .i64 x9_1] (by rfl) rfl rfl (by (try simp only [List.map_toArray, List.map_cons, List.map_nil]); first | done | rfl | (simp only [List.length_drop, List.length_take]; rfl)) ?_
                with_reducible refine (portreeveref02_far.calls x9_1 t149 _ A16.out).mono ?_
                rintro e w21 ⟨rfl, hb⟩
                have HS0_ := (hb.cell (World.block_lt_of_cell? _ _ (hHeld))).trans (hHeld)
                refine ⟨_, rfl, ?_⟩
                have n0_ := Aside0.mk (Kd.R_below (by (with_reducible repeat (first | apply Kd.R_alloc | apply Kd.R_drewN | apply Kd.R_drew)); exact HO146.out) hb)
                have n1_ := Aside0.mk (blk_below (g := gb142) (o := .cells #[.int .u32 a0_0, .int .u32 a0_1, .int .u32 a0_2, .int .u32 a0_3] 24 (0, 0)) (by (with_reducible repeat (first | refine qN ?_ _ | refine qD ?_ | refine qA ?_ _)); exact BK142.out) hb)
                have n2_ := Aside0.mk (blk_below (g := gb143) (o := .cells #[.int .u32 0, .int .u32 0, .int .u32 0, .int .u32 0] 24 (0, 0)) (by (with_reducible repeat (first | refine qN ?_ _ | refine qD ?_ | refine qA ?_ _)); exact BK143.out) hb)
                have n3_ := Aside0.mk (below_step (by repeat (first | (with_reducible first | exact HB.out | apply pA | apply pN | apply pD | refine pS ?_ GE142.out | refine pS ?_ GE143.out) | exact HB.out)) hb)
                clear HO146
                clear BK142
                clear BK143
                clear HB
                have HO146 := n0_
                have BK142 := n1_
                have BK143 := n2_
                have HB := n3_
                clear n0_ n1_ n2_ n3_
                (try clear hb)
                (try clear hb2)
                (try clear hk)
                (try clear hi)
                refine hK.out _ _ (HS0_) (fun hHeld => ?_)
                clear hK K
                refine norm_ (a' := ?_) ?_ ?_
                rotate_left
                · show Act.put _ (some 84) _ = _
                  simp only [Act.put, List.setIfInBounds_toArray, List.set_cons_zero, List.set_cons_succ, i64_w, i32_w]
                  rfl
                refine one_ (i := 15) (N := some 85) #[true, true, true, true, true, true, true, true, true, true, true, true, true, true, true, true, false, false] rfl rfl (one_of HT_.out (by kernel_rfl)) (by decide) (fun K hK => ?_)
                refine goes_ Try.func25 (by kernel_rfl) rfl #[.int .u32 ((((((x10_7 + x5_1) % 4294967296) + (rd t144 x9_1)) % 4294967296) + t148) % 4294967296), .int .i64 t149] (by rfl) rfl rfl (by (try simp only [List.map_toArray, List.map_cons, List.map_nil]); first | done | rfl | (simp only [List.length_drop, List.length_take]; rfl)) ?_
                with_reducible refine (portreeveref02_turn.calls kj7 ((((((x10_7 + x5_1) % 4294967296) + (rd t144 x9_1)) % 4294967296) + t148) % 4294967296) t149 t150 _ A17.out).mono ?_
                rintro e w' ⟨rfl, ⟨nd, rfl⟩⟩
                refine ⟨_, rfl, ?_⟩
                refine hK.out _ _ (hHeld) (fun hHeld => ?_)
                clear hK K
                refine norm_ (a' := ?_) ?_ ?_
                rotate_left
                · show Act.put _ (some 85) _ = _
                  simp only [Act.put, List.setIfInBounds_toArray, List.set_cons_zero, List.set_cons_succ, i64_w, i32_w]
                  rfl
                refine pure_ (i := 16) (N := some 86) (v := ?_) (a' := ?_) #[true, true, true, true, true, true, true, true, true, true, true, true, true, true, true, true, true, false] rfl rfl (any_of HT_.out (by kernel_rfl)) (fun _ _ _ h => h) (Or.inl ⟨by rfl, ?_⟩) ?_ ?_
                rotate_left
                · intro w'
                  go_simp
                  with_reducible rfl
                rotate_left
                · simp only [Act.put, List.setIfInBounds_toArray, List.set_cons_zero, List.set_cons_succ, i64_w, i32_w]
                  rfl
                refine pure_ (i := 17) (N := some 12) (v := ?_) (a' := ?_) #[true, true, true, true, true, true, true, true, true, true, true, true, true, true, true, true, true, true] rfl rfl (any_of HT_.out (by kernel_rfl)) (fun _ _ _ h => h) (Or.inl ⟨by rfl, ?_⟩) ?_ ?_
                rotate_left
                · intro w'
                  go_simp
                  with_reducible rfl
                rotate_left
                · simp only [Act.put, List.setIfInBounds_toArray, List.set_cons_zero, List.set_cons_succ, i64_w, i32_w]
                  rfl
                refine done_ (done_of HT_.out (by kernel_rfl)) ?_
                try go_wp2
                go_roundg kj7
                case measure => have := HK1.out; have := HJ7.out; omega
                case rel => exact ⟨(x8_1), ((x6_1 + t150) % 4294967296), (x6_1), (x7_1), (wrap64 (x9_1 + 1)), (by first | rfl | (simp; done) | (simp [*]; done)), (by first | rfl | (simp; done) | (simp [*]; done)), (by first | rfl | (simp; done) | (simp [*]; done)), (by first | rfl | (simp; done) | (simp [*]; done)), (by first | rfl | (simp; done) | (simp [*]; done)), H', ⟨by have := HK1.out; have := HJ7.out; omega⟩, ⟨by (with_reducible repeat (first | refine qN ?_ _ | refine qD ?_ | refine qA ?_ _)); exact BK142.out⟩, ⟨by (with_reducible repeat (first | refine qN ?_ _ | refine qD ?_ | refine qA ?_ _)); exact BK143.out⟩, ⟨by repeat (first | (with_reducible first | exact HB.out | apply pA | apply pN | apply pD | refine pS ?_ GE142.out | refine pS ?_ GE143.out) | exact HB.out)⟩⟩
              · rw [if_neg c14] at H
                exact absurd H (by simp)
            · rw [if_neg c13] at H
              exact absurd H (by simp)
      · rw [if_neg c7] at H
        have c7b0 : decide (x9_1 < 64) = false := decide_eq_false c7
        clear c7
        simp only [Option.some.injEq, Prod.mk.injEq] at H
        obtain ⟨rfl, rfl, rfl, rfl⟩ := H
        have hnb22 := NB142_143.out
        have hnc22 := NB143_142.out
        have hcz23_0 : wr.cell? ⟨gb142, 0, none⟩ = some (.int .u32 a0_0) := (blk_cell BK142.out 0).trans rfl
        have hcz23_1 : wr.cell? ⟨gb142, 1, none⟩ = some (.int .u32 a0_1) := (blk_cell BK142.out 1).trans rfl
        have hcz23_2 : wr.cell? ⟨gb142, 2, none⟩ = some (.int .u32 a0_2) := (blk_cell BK142.out 2).trans rfl
        have hcz23_3 : wr.cell? ⟨gb142, 3, none⟩ = some (.int .u32 a0_3) := (blk_cell BK142.out 3).trans rfl
        have hfz23_0 := blk_frozen BK142.out 0
        have hfz23_1 := blk_frozen BK142.out 1
        have hfz23_2 := blk_frozen BK142.out 2
        have hfz23_3 := blk_frozen BK142.out 3
        have hcz24_0 : wr.cell? ⟨gb143, 0, none⟩ = some (.int .u32 0) := (blk_cell BK143.out 0).trans rfl
        have hcz24_1 : wr.cell? ⟨gb143, 1, none⟩ = some (.int .u32 0) := (blk_cell BK143.out 1).trans rfl
        have hcz24_2 : wr.cell? ⟨gb143, 2, none⟩ = some (.int .u32 0) := (blk_cell BK143.out 2).trans rfl
        have hcz24_3 : wr.cell? ⟨gb143, 3, none⟩ = some (.int .u32 0) := (blk_cell BK143.out 3).trans rfl
        have hfz24_0 := blk_frozen BK143.out 0
        have hfz24_1 := blk_frozen BK143.out 1
        have hfz24_2 := blk_frozen BK143.out 2
        have hfz24_3 := blk_frozen BK143.out 3
        go_wp2
        refine bodyPost_ret (results_cell_row rfl _ _ gb143 24 #[.int .u32 ((a0_0 + x5_1) % 4294967296), .int .u32 ((a0_1 + x6_1) % 4294967296), .int .u32 ((a0_2 + x7_1) % 4294967296), .int .u32 ((a0_3 + x8_1) % 4294967296)] (0, 0) _ rfl (by (with_reducible repeat (first | refine qN ?_ _ | refine qD ?_ | refine qA ?_ _)); refine blk_put (cs := #[.int .u32 ((a0_0 + x5_1) % 4294967296), .int .u32 ((a0_1 + x6_1) % 4294967296), .int .u32 ((a0_2 + x7_1) % 4294967296), .int .u32 0]) ?_ 3 _ rfl; (with_reducible repeat (first | refine qN ?_ _ | refine qD ?_ | refine qA ?_ _)); refine blk_put (cs := #[.int .u32 ((a0_0 + x5_1) % 4294967296), .int .u32 ((a0_1 + x6_1) % 4294967296), .int .u32 0, .int .u32 0]) ?_ 2 _ rfl; (with_reducible repeat (first | refine qN ?_ _ | refine qD ?_ | refine qA ?_ _)); refine blk_put (cs := #[.int .u32 ((a0_0 + x5_1) % 4294967296), .int .u32 0, .int .u32 0, .int .u32 0]) ?_ 1 _ rfl; (with_reducible repeat (first | refine qN ?_ _ | refine qD ?_ | refine qA ?_ _)); refine blk_put (cs := #[.int .u32 0, .int .u32 0, .int .u32 0, .int .u32 0]) ?_ 0 _ rfl; (with_reducible repeat (first | refine qN ?_ _ | refine qD ?_ | refine qA ?_ _)); exact BK143.out) Try.underlying24 rfl (by kernel_rfl)) rfl ?_
        exact ⟨by first | rfl | (simp [errW_none, errW_some] <;> rfl) | (simp [*, errW_none, errW_some] <;> rfl), by repeat (first | (with_reducible first | exact HB.out | apply pA | apply pN | apply pD | refine pS ?_ GE142.out | refine pS ?_ GE143.out) | exact HB.out)⟩

end Go.Proofs.Ytadgdhefgibakaa.Q

-- written by this session's own program (wip/tools/myprint.py), over the kit's print
import Derived.Test.YtpbkdphilcodmaaQx0
namespace Go.Proofs.Ytpbkdphilcodmaa.Q
open Go.RowKit Go.Proofs.YtpbkdphilcodmaaW.PrintWords Go.Proofs.YtpbkdphilcodmaaW.PrintLast Go.Proofs.YtpbkdphilcodmaaW.PrintMore
open Go.Proofs.YtpbkdphilcodmaaV
attribute [local go_sem] max2_int min2_int max_two min_two max_three min_three max_four min_four   -- for this text's walks alone
set_option linter.unusedVariables false
set_option linter.unusedSimpArgs false

/-! ### chap_Right: function 23 -/
def chap_Right.j0 : Nat → Bool → Int → Int → Int → Int → Int → Int → Int → Int → Int → Int → Int → Int → Int → Int → Int → Int → Int → Int → Int → Int → ByteArray → Int → Int → Int → Int → Int → Int → Int → Int → Int → Int → Int → Int → Int → Int → Int → Int → Option (Bool)
  | 0, _, _, _, _, _, _, _, _, _, _, _, _, _, _, _, _, _, _, _, _, _, _, _, _, _, _, _, _, _, _, _, _, _, _, _, _, _, _ => none
  | k + 1, x20, x156000, x156001, x156002, x156003, x156004, x156005, x156006, x156007, x156008, x156009, x156010, x156011, x156012, x156013, x156014, x156015, x156016, x156017, x156018, x156019, x156020, x156021, x156022, x156023, x156024, x156025, x156026, x156027, x156028, x156029, x156030, x156031, x156032, x156033, x156034, x156035, x156036 => if x20 = true then (some false) else (if x156000 = 1 then (if x156002 ≥ 1 then (if x156002 ≤ 4 then (some (decide (x156001 > 0))) else (some false)) else (some false)) else (some (x156002 == 0)))
def chap_Right.f (k : Nat) (a0_0 : Int) (a0_1 : Int) (a0_2 : Int) (a0_3 : Int) (a0_4 : Int) (a0_5 : Int) (a0_6 : Int) (a0_7 : Int) (a0_8 : Int) (a0_9 : Int) (a0_10 : Int) (a0_11 : Int) (a0_12 : Int) (a0_13 : Int) (a0_14 : Int) (a0_15 : Int) (a0_16 : Int) (a0_17 : Int) (a0_18 : Int) (a0_19 : Int) (a0_20 : ByteArray) (a0_21 : Int) (a0_22 : Int) (a0_23 : Int) (a0_24 : Int) (a0_25 : Int) (a0_26 : Int) (a0_27 : Int) (a0_28 : Int) (a0_29 : Int) (a0_30 : Int) (a0_31 : Int) (a0_32 : Int) (a0_33 : Int) (a0_34 : Int) (a0_35 : Int) (a0_36 : Int) : Option (Bool) := if a0_0 < 0 then (chap_Right.j0 k true a0_0 a0_1 a0_2 a0_3 a0_4 a0_5 a0_6 a0_7 a0_8 a0_9 a0_10 a0_11 a0_12 a0_13 a0_14 a0_15 a0_16 a0_17 a0_18 a0_19 a0_20 a0_21 a0_22 a0_23 a0_24 a0_25 a0_26 a0_27 a0_28 a0_29 a0_30 a0_31 a0_32 a0_33 a0_34 a0_35 a0_36) else (if a0_0 > 3 then (chap_Right.j0 k true a0_0 a0_1 a0_2 a0_3 a0_4 a0_5 a0_6 a0_7 a0_8 a0_9 a0_10 a0_11 a0_12 a0_13 a0_14 a0_15 a0_16 a0_17 a0_18 a0_19 a0_20 a0_21 a0_22 a0_23 a0_24 a0_25 a0_26 a0_27 a0_28 a0_29 a0_30 a0_31 a0_32 a0_33 a0_34 a0_35 a0_36) else (if a0_1 < 0 then (chap_Right.j0 k true a0_0 a0_1 a0_2 a0_3 a0_4 a0_5 a0_6 a0_7 a0_8 a0_9 a0_10 a0_11 a0_12 a0_13 a0_14 a0_15 a0_16 a0_17 a0_18 a0_19 a0_20 a0_21 a0_22 a0_23 a0_24 a0_25 a0_26 a0_27 a0_28 a0_29 a0_30 a0_31 a0_32 a0_33 a0_34 a0_35 a0_36) else (chap_Right.j0 k (decide (a0_1 > 4)) a0_0 a0_1 a0_2 a0_3 a0_4 a0_5 a0_6 a0_7 a0_8 a0_9 a0_10 a0_11 a0_12 a0_13 a0_14 a0_15 a0_16 a0_17 a0_18 a0_19 a0_20 a0_21 a0_22 a0_23 a0_24 a0_25 a0_26 a0_27 a0_28 a0_29 a0_30 a0_31 a0_32 a0_33 a0_34 a0_35 a0_36)))
theorem chap_Right.mono_l : ∀ k, (∀ y0 y1 y2 y3 y4 y5 y6 y7 y8 y9 y10 y11 y12 y13 y14 y15 y16 y17 y18 y19 y20 y21 y22 y23 y24 y25 y26 y27 y28 y29 y30 y31 y32 y33 y34 y35 y36 y37, LeO (chap_Right.j0 k y0 y1 y2 y3 y4 y5 y6 y7 y8 y9 y10 y11 y12 y13 y14 y15 y16 y17 y18 y19 y20 y21 y22 y23 y24 y25 y26 y27 y28 y29 y30 y31 y32 y33 y34 y35 y36 y37) (chap_Right.j0 (k + 1) y0 y1 y2 y3 y4 y5 y6 y7 y8 y9 y10 y11 y12 y13 y14 y15 y16 y17 y18 y19 y20 y21 y22 y23 y24 y25 y26 y27 y28 y29 y30 y31 y32 y33 y34 y35 y36 y37))
  | 0 => fun _ _ _ _ _ _ _ _ _ _ _ _ _ _ _ _ _ _ _ _ _ _ _ _ _ _ _ _ _ _ _ _ _ _ _ _ _ _ r h => by simp [chap_Right.j0] at h
  | k + 1 => by
    have ih0 := chap_Right.mono_l k
    · intro y0 y1 y2 y3 y4 y5 y6 y7 y8 y9 y10 y11 y12 y13 y14 y15 y16 y17 y18 y19 y20 y21 y22 y23 y24 y25 y26 y27 y28 y29 y30 y31 y32 y33 y34 y35 y36 y37
      unfold chap_Right.j0
      repeat' first
      | (with_reducible exact ih0 _ _ _ _ _ _ _ _ _ _ _ _ _ _ _ _ _ _ _ _ _ _ _ _ _ _ _ _ _ _ _ _ _ _ _ _ _ _)
      | (with_reducible exact LeO.refl _)
      | (with_reducible exact LeO.none _)
      | (with_reducible refine LeO.ite ?_ ?_)
      | (with_reducible refine LeO.bind ?_ (fun _ => ?_))
      | exact ih0 _ _ _ _ _ _ _ _ _ _ _ _ _ _ _ _ _ _ _ _ _ _ _ _ _ _ _ _ _ _ _ _ _ _ _ _ _ _
      | exact LeO.none _
      | refine LeO.ite ?_ ?_
      | refine LeO.bind ?_ (fun _ => ?_)
theorem chap_Right.mono : ∀ a0 a1 a2 a3 a4 a5 a6 a7 a8 a9 a10 a11 a12 a13 a14 a15 a16 a17 a18 a19 a20 a21 a22 a23 a24 a25 a26 a27 a28 a29 a30 a31 a32 a33 a34 a35 a36 k, LeO (chap_Right.f k a0 a1 a2 a3 a4 a5 a6 a7 a8 a9 a10 a11 a12 a13 a14 a15 a16 a17 a18 a19 a20 a21 a22 a23 a24 a25 a26 a27 a28 a29 a30 a31 a32 a33 a34 a35 a36) (chap_Right.f (k + 1) a0 a1 a2 a3 a4 a5 a6 a7 a8 a9 a10 a11 a12 a13 a14 a15 a16 a17 a18 a19 a20 a21 a22 a23 a24 a25 a26 a27 a28 a29 a30 a31 a32 a33 a34 a35 a36) := by
  intro a0 a1 a2 a3 a4 a5 a6 a7 a8 a9 a10 a11 a12 a13 a14 a15 a16 a17 a18 a19 a20 a21 a22 a23 a24 a25 a26 a27 a28 a29 a30 a31 a32 a33 a34 a35 a36 k
  have ih0 := chap_Right.mono_l k
  unfold chap_Right.f
  repeat' first
      | (with_reducible exact ih0 _ _ _ _ _ _ _ _ _ _ _ _ _ _ _ _ _ _ _ _ _ _ _ _ _ _ _ _ _ _ _ _ _ _ _ _ _ _)
      | (with_reducible exact LeO.refl _)
      | (with_reducible exact LeO.none _)
      | (with_reducible refine LeO.ite ?_ ?_)
      | (with_reducible refine LeO.bind ?_ (fun _ => ?_))
      | exact ih0 _ _ _ _ _ _ _ _ _ _ _ _ _ _ _ _ _ _ _ _ _ _ _ _ _ _ _ _ _ _ _ _ _ _ _ _ _ _
      | exact LeO.none _
      | refine LeO.ite ?_ ?_
      | refine LeO.bind ?_ (fun _ => ?_)
set_option maxHeartbeats 8000000 in
set_option maxRecDepth 100000 in
theorem chap_Right.calls (k : Nat) (a0_0 : Int) (a0_1 : Int) (a0_2 : Int) (a0_3 : Int) (a0_4 : Int) (a0_5 : Int) (a0_6 : Int) (a0_7 : Int) (a0_8 : Int) (a0_9 : Int) (a0_10 : Int) (a0_11 : Int) (a0_12 : Int) (a0_13 : Int) (a0_14 : Int) (a0_15 : Int) (a0_16 : Int) (a0_17 : Int) (a0_18 : Int) (a0_19 : Int) (a0_20 : ByteArray) (a0_21 : Int) (a0_22 : Int) (a0_23 : Int) (a0_24 : Int) (a0_25 : Int) (a0_26 : Int) (a0_27 : Int) (a0_28 : Int) (a0_29 : Int) (a0_30 : Int) (a0_31 : Int) (a0_32 : Int) (a0_33 : Int) (a0_34 : Int) (a0_35 : Int) (a0_36 : Int) (r : Bool) (w : World) (h : chap_Right.f k a0_0 a0_1 a0_2 a0_3 a0_4 a0_5 a0_6 a0_7 a0_8 a0_9 a0_10 a0_11 a0_12 a0_13 a0_14 a0_15 a0_16 a0_17 a0_18 a0_19 a0_20 a0_21 a0_22 a0_23 a0_24 a0_25 a0_26 a0_27 a0_28 a0_29 a0_30 a0_31 a0_32 a0_33 a0_34 a0_35 a0_36 = some r) :
    Calls Try.prog 23 #[.agg #[.int .i64 a0_0, .int .i64 a0_1, .int .i64 a0_2, .int .u8 a0_3, .int .u8 a0_4, .int .u8 a0_5, .int .u8 a0_6, .int .u8 a0_7, .int .u8 a0_8, .int .u8 a0_9, .int .u8 a0_10, .int .u8 a0_11, .int .u8 a0_12, .int .u8 a0_13, .int .u8 a0_14, .int .u8 a0_15, .int .u8 a0_16, .int .u8 a0_17, .int .u8 a0_18, .int .u8 a0_19, .string a0_20, .int .u8 a0_21, .int .u8 a0_22, .int .u8 a0_23, .int .u8 a0_24, .int .u8 a0_25, .int .u8 a0_26, .int .u8 a0_27, .int .u8 a0_28, .int .u8 a0_29, .int .u8 a0_30, .int .u8 a0_31, .int .u8 a0_32, .int .u8 a0_33, .int .u8 a0_34, .int .u8 a0_35, .int .u8 a0_36]] w fun e w' => e = .returned (.bool r) ∧ Below w.heap.size w w' := by
  have hu24 := Try.underlying24
  have HB := Aside0.mk (Below.refl w.heap.size w)
  have H : (if a0_0 < 0 then (chap_Right.j0 k true a0_0 a0_1 a0_2 a0_3 a0_4 a0_5 a0_6 a0_7 a0_8 a0_9 a0_10 a0_11 a0_12 a0_13 a0_14 a0_15 a0_16 a0_17 a0_18 a0_19 a0_20 a0_21 a0_22 a0_23 a0_24 a0_25 a0_26 a0_27 a0_28 a0_29 a0_30 a0_31 a0_32 a0_33 a0_34 a0_35 a0_36) else (if a0_0 > 3 then (chap_Right.j0 k true a0_0 a0_1 a0_2 a0_3 a0_4 a0_5 a0_6 a0_7 a0_8 a0_9 a0_10 a0_11 a0_12 a0_13 a0_14 a0_15 a0_16 a0_17 a0_18 a0_19 a0_20 a0_21 a0_22 a0_23 a0_24 a0_25 a0_26 a0_27 a0_28 a0_29 a0_30 a0_31 a0_32 a0_33 a0_34 a0_35 a0_36) else (if a0_1 < 0 then (chap_Right.j0 k true a0_0 a0_1 a0_2 a0_3 a0_4 a0_5 a0_6 a0_7 a0_8 a0_9 a0_10 a0_11 a0_12 a0_13 a0_14 a0_15 a0_16 a0_17 a0_18 a0_19 a0_20 a0_21 a0_22 a0_23 a0_24 a0_25 a0_26 a0_27 a0_28 a0_29 a0_30 a0_31 a0_32 a0_33 a0_34 a0_35 a0_36) else (chap_Right.j0 k (decide (a0_1 > 4)) a0_0 a0_1 a0_2 a0_3 a0_4 a0_5 a0_6 a0_7 a0_8 a0_9 a0_10 a0_11 a0_12 a0_13 a0_14 a0_15 a0_16 a0_17 a0_18 a0_19 a0_20 a0_21 a0_22 a0_23 a0_24 a0_25 a0_26 a0_27 a0_28 a0_29 a0_30 a0_31 a0_32 a0_33 a0_34 a0_35 a0_36)))) = some r := h
  clear h
  have HC2 := Aside0.mk H
  clear H
  go_enter Try.func23, Try.ntmps23
  go_upto_region 1 with (first | ((with_reducible refine gate_dst (N := 1) rfl ?_); refine box_event ?hg (N := 1) ?hd (cs := #[.int .i64 a0_0, .int .i64 a0_1, .int .i64 a0_2, .int .u8 a0_3, .int .u8 a0_4, .int .u8 a0_5, .int .u8 a0_6, .int .u8 a0_7, .int .u8 a0_8, .int .u8 a0_9, .int .u8 a0_10, .int .u8 a0_11, .int .u8 a0_12, .int .u8 a0_13, .int .u8 a0_14, .int .u8 a0_15, .int .u8 a0_16, .int .u8 a0_17, .int .u8 a0_18, .int .u8 a0_19, .string a0_20, .int .u8 a0_21, .int .u8 a0_22, .int .u8 a0_23, .int .u8 a0_24, .int .u8 a0_25, .int .u8 a0_26, .int .u8 a0_27, .int .u8 a0_28, .int .u8 a0_29, .int .u8 a0_30, .int .u8 a0_31, .int .u8 a0_32, .int .u8 a0_33, .int .u8 a0_34, .int .u8 a0_35, .int .u8 a0_36]) (t := 24) ?hr ?_; (case hd => rfl); (case hg => rfl); (case hr => first | (go_simp; done) | (go_simp; rfl)); intro gb155 hg w3 hbox hb; have n0_ := Aside0.mk (below_step (by repeat (first | (with_reducible first | exact HB.out | apply pA | apply pN | apply pD) | exact HB.out)) hb); have n1_ := Aside0.mk (hbox); have n2_ := Aside0.mk ((by rw [hg]; exact (below_size (by repeat (first | (with_reducible first | exact HB.out | apply pA | apply pN | apply pD) | exact HB.out))) : w.heap.size ≤ gb155)); have n3_ := Aside0.mk ((by rw [hg]; exact (below_size (by repeat (first | (with_reducible first | exact HB.out | apply pA | apply pN | apply pD) | exact HB.out))) : w.heap.size ≤ gb155)); clear HB; have HB := n0_; have BK155 := n1_; have GW155 := n2_; have GE155 := n3_; clear n0_ n1_ n2_ n3_; clear hb hbox hg))
  (try simp only [Act.put, List.setIfInBounds_toArray, List.set_cons_zero, List.set_cons_succ])
  go_cut [20] (fun v20 wc => ∃ (kq : Nat) (x20_1 : Bool), v20 = .bool x20_1 ∧ Aside0 (chap_Right.j0 kq x20_1 a0_0 a0_1 a0_2 a0_3 a0_4 a0_5 a0_6 a0_7 a0_8 a0_9 a0_10 a0_11 a0_12 a0_13 a0_14 a0_15 a0_16 a0_17 a0_18 a0_19 a0_20 a0_21 a0_22 a0_23 a0_24 a0_25 a0_26 a0_27 a0_28 a0_29 a0_30 a0_31 a0_32 a0_33 a0_34 a0_35 a0_36 = some r) ∧ Aside0 (kq ≤ k) ∧ Aside0 (wc.heap[gb155]? = some (.cells #[.int .i64 a0_0, .int .i64 a0_1, .int .i64 a0_2, .int .u8 a0_3, .int .u8 a0_4, .int .u8 a0_5, .int .u8 a0_6, .int .u8 a0_7, .int .u8 a0_8, .int .u8 a0_9, .int .u8 a0_10, .int .u8 a0_11, .int .u8 a0_12, .int .u8 a0_13, .int .u8 a0_14, .int .u8 a0_15, .int .u8 a0_16, .int .u8 a0_17, .int .u8 a0_18, .int .u8 a0_19, .string a0_20, .int .u8 a0_21, .int .u8 a0_22, .int .u8 a0_23, .int .u8 a0_24, .int .u8 a0_25, .int .u8 a0_26, .int .u8 a0_27, .int .u8 a0_28, .int .u8 a0_29, .int .u8 a0_30, .int .u8 a0_31, .int .u8 a0_32, .int .u8 a0_33, .int .u8 a0_34, .int .u8 a0_35, .int .u8 a0_36] 24 (0, 0))) ∧ Aside0 (Below w.heap.size w wc))
  case first =>
    have H := HC2.out
    clear HC2
    by_cases c4 : a0_0 < 0
    · rw [if_pos c4] at H
      have c4b0 : decide (a0_0 < 0) = true := decide_eq_true c4
      clear c4
      (first | rw [c4b0] | (simp only [i64_w, i32_w]; rw [c4b0]) | skip)
      have H' := Aside0.mk H
      clear H
      have hcz5_0 : w3.cell? ⟨gb155, 0, none⟩ = some (.int .i64 a0_0) := (blk_cell BK155.out 0).trans rfl
      have hcz5_1 : w3.cell? ⟨gb155, 1, none⟩ = some (.int .i64 a0_1) := (blk_cell BK155.out 1).trans rfl
      have hcz5_2 : w3.cell? ⟨gb155, 2, none⟩ = some (.int .i64 a0_2) := (blk_cell BK155.out 2).trans rfl
      have hcz5_3 : w3.cell? ⟨gb155, 3, none⟩ = some (.int .u8 a0_3) := (blk_cell BK155.out 3).trans rfl
      have hcz5_4 : w3.cell? ⟨gb155, 4, none⟩ = some (.int .u8 a0_4) := (blk_cell BK155.out 4).trans rfl
      have hcz5_5 : w3.cell? ⟨gb155, 5, none⟩ = some (.int .u8 a0_5) := (blk_cell BK155.out 5).trans rfl
      have hcz5_6 : w3.cell? ⟨gb155, 6, none⟩ = some (.int .u8 a0_6) := (blk_cell BK155.out 6).trans rfl
      have hcz5_7 : w3.cell? ⟨gb155, 7, none⟩ = some (.int .u8 a0_7) := (blk_cell BK155.out 7).trans rfl
      have hcz5_8 : w3.cell? ⟨gb155, 8, none⟩ = some (.int .u8 a0_8) := (blk_cell BK155.out 8).trans rfl
      have hcz5_9 : w3.cell? ⟨gb155, 9, none⟩ = some (.int .u8 a0_9) := (blk_cell BK155.out 9).trans rfl
      have hcz5_10 : w3.cell? ⟨gb155, 10, none⟩ = some (.int .u8 a0_10) := (blk_cell BK155.out 10).trans rfl
      have hcz5_11 : w3.cell? ⟨gb155, 11, none⟩ = some (.int .u8 a0_11) := (blk_cell BK155.out 11).trans rfl
      have hcz5_12 : w3.cell? ⟨gb155, 12, none⟩ = some (.int .u8 a0_12) := (blk_cell BK155.out 12).trans rfl
      have hcz5_13 : w3.cell? ⟨gb155, 13, none⟩ = some (.int .u8 a0_13) := (blk_cell BK155.out 13).trans rfl
      have hcz5_14 : w3.cell? ⟨gb155, 14, none⟩ = some (.int .u8 a0_14) := (blk_cell BK155.out 14).trans rfl
      have hcz5_15 : w3.cell? ⟨gb155, 15, none⟩ = some (.int .u8 a0_15) := (blk_cell BK155.out 15).trans rfl
      have hcz5_16 : w3.cell? ⟨gb155, 16, none⟩ = some (.int .u8 a0_16) := (blk_cell BK155.out 16).trans rfl
      have hcz5_17 : w3.cell? ⟨gb155, 17, none⟩ = some (.int .u8 a0_17) := (blk_cell BK155.out 17).trans rfl
      have hcz5_18 : w3.cell? ⟨gb155, 18, none⟩ = some (.int .u8 a0_18) := (blk_cell BK155.out 18).trans rfl
      have hcz5_19 : w3.cell? ⟨gb155, 19, none⟩ = some (.int .u8 a0_19) := (blk_cell BK155.out 19).trans rfl
      have hcz5_20 : w3.cell? ⟨gb155, 20, none⟩ = some (.string a0_20) := (blk_cell BK155.out 20).trans rfl
      have hcz5_21 : w3.cell? ⟨gb155, 21, none⟩ = some (.int .u8 a0_21) := (blk_cell BK155.out 21).trans rfl
      have hcz5_22 : w3.cell? ⟨gb155, 22, none⟩ = some (.int .u8 a0_22) := (blk_cell BK155.out 22).trans rfl
      have hcz5_23 : w3.cell? ⟨gb155, 23, none⟩ = some (.int .u8 a0_23) := (blk_cell BK155.out 23).trans rfl
      have hcz5_24 : w3.cell? ⟨gb155, 24, none⟩ = some (.int .u8 a0_24) := (blk_cell BK155.out 24).trans rfl
      have hcz5_25 : w3.cell? ⟨gb155, 25, none⟩ = some (.int .u8 a0_25) := (blk_cell BK155.out 25).trans rfl
      have hcz5_26 : w3.cell? ⟨gb155, 26, none⟩ = some (.int .u8 a0_26) := (blk_cell BK155.out 26).trans rfl
      have hcz5_27 : w3.cell? ⟨gb155, 27, none⟩ = some (.int .u8 a0_27) := (blk_cell BK155.out 27).trans rfl
      have hcz5_28 : w3.cell? ⟨gb155, 28, none⟩ = some (.int .u8 a0_28) := (blk_cell BK155.out 28).trans rfl
      have hcz5_29 : w3.cell? ⟨gb155, 29, none⟩ = some (.int .u8 a0_29) := (blk_cell BK155.out 29).trans rfl
      have hcz5_30 : w3.cell? ⟨gb155, 30, none⟩ = some (.int .u8 a0_30) := (blk_cell BK155.out 30).trans rfl
      have hcz5_31 : w3.cell? ⟨gb155, 31, none⟩ = some (.int .u8 a0_31) := (blk_cell BK155.out 31).trans rfl
      have hcz5_32 : w3.cell? ⟨gb155, 32, none⟩ = some (.int .u8 a0_32) := (blk_cell BK155.out 32).trans rfl
      have hcz5_33 : w3.cell? ⟨gb155, 33, none⟩ = some (.int .u8 a0_33) := (blk_cell BK155.out 33).trans rfl
      have hcz5_34 : w3.cell? ⟨gb155, 34, none⟩ = some (.int .u8 a0_34) := (blk_cell BK155.out 34).trans rfl
      have hcz5_35 : w3.cell? ⟨gb155, 35, none⟩ = some (.int .u8 a0_35) := (blk_cell BK155.out 35).trans rfl
      have hcz5_36 : w3.cell? ⟨gb155, 36, none⟩ = some (.int .u8 a0_36) := (blk_cell BK155.out 36).trans rfl
      have hfz5_0 := blk_frozen BK155.out 0
      have hfz5_1 := blk_frozen BK155.out 1
      have hfz5_2 := blk_frozen BK155.out 2
      have hfz5_3 := blk_frozen BK155.out 3
      have hfz5_4 := blk_frozen BK155.out 4
      have hfz5_5 := blk_frozen BK155.out 5
      have hfz5_6 := blk_frozen BK155.out 6
      have hfz5_7 := blk_frozen BK155.out 7
      have hfz5_8 := blk_frozen BK155.out 8
      have hfz5_9 := blk_frozen BK155.out 9
      have hfz5_10 := blk_frozen BK155.out 10
      have hfz5_11 := blk_frozen BK155.out 11
      have hfz5_12 := blk_frozen BK155.out 12
      have hfz5_13 := blk_frozen BK155.out 13
      have hfz5_14 := blk_frozen BK155.out 14
      have hfz5_15 := blk_frozen BK155.out 15
      have hfz5_16 := blk_frozen BK155.out 16
      have hfz5_17 := blk_frozen BK155.out 17
      have hfz5_18 := blk_frozen BK155.out 18
      have hfz5_19 := blk_frozen BK155.out 19
      have hfz5_20 := blk_frozen BK155.out 20
      have hfz5_21 := blk_frozen BK155.out 21
      have hfz5_22 := blk_frozen BK155.out 22
      have hfz5_23 := blk_frozen BK155.out 23
      have hfz5_24 := blk_frozen BK155.out 24
      have hfz5_25 := blk_frozen BK155.out 25
      have hfz5_26 := blk_frozen BK155.out 26
      have hfz5_27 := blk_frozen BK155.out 27
      have hfz5_28 := blk_frozen BK155.out 28
      have hfz5_29 := blk_frozen BK155.out 29
      have hfz5_30 := blk_frozen BK155.out 30
      have hfz5_31 := blk_frozen BK155.out 31
      have hfz5_32 := blk_frozen BK155.out 32
      have hfz5_33 := blk_frozen BK155.out 33
      have hfz5_34 := blk_frozen BK155.out 34
      have hfz5_35 := blk_frozen BK155.out 35
      have hfz5_36 := blk_frozen BK155.out 36
      go_wp2
      go_meet
      case rel => exact ⟨_, (true), (by first | rfl | (simp; done) | (simp [*]; done)), H', ⟨by first | omega | exact Nat.le_refl _⟩, ⟨by (with_reducible repeat (first | refine qN ?_ _ | refine qD ?_ | refine qA ?_ _)); exact BK155.out⟩, ⟨by repeat (first | (with_reducible first | exact HB.out | apply pA | apply pN | apply pD | refine pS ?_ GE155.out) | exact HB.out)⟩⟩
    · rw [if_neg c4] at H
      have c4b0 : decide (a0_0 < 0) = false := decide_eq_false c4
      clear c4
      (first | rw [c4b0] | (simp only [i64_w, i32_w]; rw [c4b0]) | skip)
      by_cases c6 : a0_0 > 3
      · rw [if_pos c6] at H
        have c6b0 : decide (3 < a0_0) = true := decide_eq_true c6
        clear c6
        have H' := Aside0.mk H
        clear H
        have hcz7_0 : w3.cell? ⟨gb155, 0, none⟩ = some (.int .i64 a0_0) := (blk_cell BK155.out 0).trans rfl
        have hcz7_1 : w3.cell? ⟨gb155, 1, none⟩ = some (.int .i64 a0_1) := (blk_cell BK155.out 1).trans rfl
        have hcz7_2 : w3.cell? ⟨gb155, 2, none⟩ = some (.int .i64 a0_2) := (blk_cell BK155.out 2).trans rfl
        have hcz7_3 : w3.cell? ⟨gb155, 3, none⟩ = some (.int .u8 a0_3) := (blk_cell BK155.out 3).trans rfl
        have hcz7_4 : w3.cell? ⟨gb155, 4, none⟩ = some (.int .u8 a0_4) := (blk_cell BK155.out 4).trans rfl
        have hcz7_5 : w3.cell? ⟨gb155, 5, none⟩ = some (.int .u8 a0_5) := (blk_cell BK155.out 5).trans rfl
        have hcz7_6 : w3.cell? ⟨gb155, 6, none⟩ = some (.int .u8 a0_6) := (blk_cell BK155.out 6).trans rfl
        have hcz7_7 : w3.cell? ⟨gb155, 7, none⟩ = some (.int .u8 a0_7) := (blk_cell BK155.out 7).trans rfl
        have hcz7_8 : w3.cell? ⟨gb155, 8, none⟩ = some (.int .u8 a0_8) := (blk_cell BK155.out 8).trans rfl
        have hcz7_9 : w3.cell? ⟨gb155, 9, none⟩ = some (.int .u8 a0_9) := (blk_cell BK155.out 9).trans rfl
        have hcz7_10 : w3.cell? ⟨gb155, 10, none⟩ = some (.int .u8 a0_10) := (blk_cell BK155.out 10).trans rfl
        have hcz7_11 : w3.cell? ⟨gb155, 11, none⟩ = some (.int .u8 a0_11) := (blk_cell BK155.out 11).trans rfl
        have hcz7_12 : w3.cell? ⟨gb155, 12, none⟩ = some (.int .u8 a0_12) := (blk_cell BK155.out 12).trans rfl
        have hcz7_13 : w3.cell? ⟨gb155, 13, none⟩ = some (.int .u8 a0_13) := (blk_cell BK155.out 13).trans rfl
        have hcz7_14 : w3.cell? ⟨gb155, 14, none⟩ = some (.int .u8 a0_14) := (blk_cell BK155.out 14).trans rfl
        have hcz7_15 : w3.cell? ⟨gb155, 15, none⟩ = some (.int .u8 a0_15) := (blk_cell BK155.out 15).trans rfl
        have hcz7_16 : w3.cell? ⟨gb155, 16, none⟩ = some (.int .u8 a0_16) := (blk_cell BK155.out 16).trans rfl
        have hcz7_17 : w3.cell? ⟨gb155, 17, none⟩ = some (.int .u8 a0_17) := (blk_cell BK155.out 17).trans rfl
        have hcz7_18 : w3.cell? ⟨gb155, 18, none⟩ = some (.int .u8 a0_18) := (blk_cell BK155.out 18).trans rfl
        have hcz7_19 : w3.cell? ⟨gb155, 19, none⟩ = some (.int .u8 a0_19) := (blk_cell BK155.out 19).trans rfl
        have hcz7_20 : w3.cell? ⟨gb155, 20, none⟩ = some (.string a0_20) := (blk_cell BK155.out 20).trans rfl
        have hcz7_21 : w3.cell? ⟨gb155, 21, none⟩ = some (.int .u8 a0_21) := (blk_cell BK155.out 21).trans rfl
        have hcz7_22 : w3.cell? ⟨gb155, 22, none⟩ = some (.int .u8 a0_22) := (blk_cell BK155.out 22).trans rfl
        have hcz7_23 : w3.cell? ⟨gb155, 23, none⟩ = some (.int .u8 a0_23) := (blk_cell BK155.out 23).trans rfl
        have hcz7_24 : w3.cell? ⟨gb155, 24, none⟩ = some (.int .u8 a0_24) := (blk_cell BK155.out 24).trans rfl
        have hcz7_25 : w3.cell? ⟨gb155, 25, none⟩ = some (.int .u8 a0_25) := (blk_cell BK155.out 25).trans rfl
        have hcz7_26 : w3.cell? ⟨gb155, 26, none⟩ = some (.int .u8 a0_26) := (blk_cell BK155.out 26).trans rfl
        have hcz7_27 : w3.cell? ⟨gb155, 27, none⟩ = some (.int .u8 a0_27) := (blk_cell BK155.out 27).trans rfl
        have hcz7_28 : w3.cell? ⟨gb155, 28, none⟩ = some (.int .u8 a0_28) := (blk_cell BK155.out 28).trans rfl
        have hcz7_29 : w3.cell? ⟨gb155, 29, none⟩ = some (.int .u8 a0_29) := (blk_cell BK155.out 29).trans rfl
        have hcz7_30 : w3.cell? ⟨gb155, 30, none⟩ = some (.int .u8 a0_30) := (blk_cell BK155.out 30).trans rfl
        have hcz7_31 : w3.cell? ⟨gb155, 31, none⟩ = some (.int .u8 a0_31) := (blk_cell BK155.out 31).trans rfl
        have hcz7_32 : w3.cell? ⟨gb155, 32, none⟩ = some (.int .u8 a0_32) := (blk_cell BK155.out 32).trans rfl
        have hcz7_33 : w3.cell? ⟨gb155, 33, none⟩ = some (.int .u8 a0_33) := (blk_cell BK155.out 33).trans rfl
        have hcz7_34 : w3.cell? ⟨gb155, 34, none⟩ = some (.int .u8 a0_34) := (blk_cell BK155.out 34).trans rfl
        have hcz7_35 : w3.cell? ⟨gb155, 35, none⟩ = some (.int .u8 a0_35) := (blk_cell BK155.out 35).trans rfl
        have hcz7_36 : w3.cell? ⟨gb155, 36, none⟩ = some (.int .u8 a0_36) := (blk_cell BK155.out 36).trans rfl
        have hfz7_0 := blk_frozen BK155.out 0
        have hfz7_1 := blk_frozen BK155.out 1
        have hfz7_2 := blk_frozen BK155.out 2
        have hfz7_3 := blk_frozen BK155.out 3
        have hfz7_4 := blk_frozen BK155.out 4
        have hfz7_5 := blk_frozen BK155.out 5
        have hfz7_6 := blk_frozen BK155.out 6
        have hfz7_7 := blk_frozen BK155.out 7
        have hfz7_8 := blk_frozen BK155.out 8
        have hfz7_9 := blk_frozen BK155.out 9
        have hfz7_10 := blk_frozen BK155.out 10
        have hfz7_11 := blk_frozen BK155.out 11
        have hfz7_12 := blk_frozen BK155.out 12
        have hfz7_13 := blk_frozen BK155.out 13
        have hfz7_14 := blk_frozen BK155.out 14
        have hfz7_15 := blk_frozen BK155.out 15
        have hfz7_16 := blk_frozen BK155.out 16
        have hfz7_17 := blk_frozen BK155.out 17
        have hfz7_18 := blk_frozen BK155.out 18
        have hfz7_19 := blk_frozen BK155.out 19
        have hfz7_20 := blk_frozen BK155.out 20
        have hfz7_21 := blk_frozen BK155.out 21
        have hfz7_22 := blk_frozen BK155.out 22
        have hfz7_23 := blk_frozen BK155.out 23
        have hfz7_24 := blk_frozen BK155.out 24
        have hfz7_25 := blk_frozen BK155.out 25
        have hfz7_26 := blk_frozen BK155.out 26
        have hfz7_27 := blk_frozen BK155.out 27
        have hfz7_28 := blk_frozen BK155.out 28
        have hfz7_29 := blk_frozen BK155.out 29
        have hfz7_30 := blk_frozen BK155.out 30
        have hfz7_31 := blk_frozen BK155.out 31
        have hfz7_32 := blk_frozen BK155.out 32
        have hfz7_33 := blk_frozen BK155.out 33
        have hfz7_34 := blk_frozen BK155.out 34
        have hfz7_35 := blk_frozen BK155.out 35
        have hfz7_36 := blk_frozen BK155.out 36
        go_wp2
        go_meet
        case rel => exact ⟨_, (true), (by first | rfl | (simp; done) | (simp [*]; done)), H', ⟨by first | omega | exact Nat.le_refl _⟩, ⟨by (with_reducible repeat (first | refine qN ?_ _ | refine qD ?_ | refine qA ?_ _)); exact BK155.out⟩, ⟨by repeat (first | (with_reducible first | exact HB.out | apply pA | apply pN | apply pD | refine pS ?_ GE155.out) | exact HB.out)⟩⟩
      · rw [if_neg c6] at H
        have c6b0 : decide (3 < a0_0) = false := decide_eq_false c6
        clear c6
        by_cases c8 : a0_1 < 0
        · rw [if_pos c8] at H
          have c8b0 : decide (a0_1 < 0) = true := decide_eq_true c8
          clear c8
          have H' := Aside0.mk H
          clear H
          have hcz9_0 : w3.cell? ⟨gb155, 0, none⟩ = some (.int .i64 a0_0) := (blk_cell BK155.out 0).trans rfl
          have hcz9_1 : w3.cell? ⟨gb155, 1, none⟩ = some (.int .i64 a0_1) := (blk_cell BK155.out 1).trans rfl
          have hcz9_2 : w3.cell? ⟨gb155, 2, none⟩ = some (.int .i64 a0_2) := (blk_cell BK155.out 2).trans rfl
          have hcz9_3 : w3.cell? ⟨gb155, 3, none⟩ = some (.int .u8 a0_3) := (blk_cell BK155.out 3).trans rfl
          have hcz9_4 : w3.cell? ⟨gb155, 4, none⟩ = some (.int .u8 a0_4) := (blk_cell BK155.out 4).trans rfl
          have hcz9_5 : w3.cell? ⟨gb155, 5, none⟩ = some (.int .u8 a0_5) := (blk_cell BK155.out 5).trans rfl
          have hcz9_6 : w3.cell? ⟨gb155, 6, none⟩ = some (.int .u8 a0_6) := (blk_cell BK155.out 6).trans rfl
          have hcz9_7 : w3.cell? ⟨gb155, 7, none⟩ = some (.int .u8 a0_7) := (blk_cell BK155.out 7).trans rfl
          have hcz9_8 : w3.cell? ⟨gb155, 8, none⟩ = some (.int .u8 a0_8) := (blk_cell BK155.out 8).trans rfl
          have hcz9_9 : w3.cell? ⟨gb155, 9, none⟩ = some (.int .u8 a0_9) := (blk_cell BK155.out 9).trans rfl
          have hcz9_10 : w3.cell? ⟨gb155, 10, none⟩ = some (.int .u8 a0_10) := (blk_cell BK155.out 10).trans rfl
          have hcz9_11 : w3.cell? ⟨gb155, 11, none⟩ = some (.int .u8 a0_11) := (blk_cell BK155.out 11).trans rfl
          have hcz9_12 : w3.cell? ⟨gb155, 12, none⟩ = some (.int .u8 a0_12) := (blk_cell BK155.out 12).trans rfl
          have hcz9_13 : w3.cell? ⟨gb155, 13, none⟩ = some (.int .u8 a0_13) := (blk_cell BK155.out 13).trans rfl
          have hcz9_14 : w3.cell? ⟨gb155, 14, none⟩ = some (.int .u8 a0_14) := (blk_cell BK155.out 14).trans rfl
          have hcz9_15 : w3.cell? ⟨gb155, 15, none⟩ = some (.int .u8 a0_15) := (blk_cell BK155.out 15).trans rfl
          have hcz9_16 : w3.cell? ⟨gb155, 16, none⟩ = some (.int .u8 a0_16) := (blk_cell BK155.out 16).trans rfl
          have hcz9_17 : w3.cell? ⟨gb155, 17, none⟩ = some (.int .u8 a0_17) := (blk_cell BK155.out 17).trans rfl
          have hcz9_18 : w3.cell? ⟨gb155, 18, none⟩ = some (.int .u8 a0_18) := (blk_cell BK155.out 18).trans rfl
          have hcz9_19 : w3.cell? ⟨gb155, 19, none⟩ = some (.int .u8 a0_19) := (blk_cell BK155.out 19).trans rfl
          have hcz9_20 : w3.cell? ⟨gb155, 20, none⟩ = some (.string a0_20) := (blk_cell BK155.out 20).trans rfl
          have hcz9_21 : w3.cell? ⟨gb155, 21, none⟩ = some (.int .u8 a0_21) := (blk_cell BK155.out 21).trans rfl
          have hcz9_22 : w3.cell? ⟨gb155, 22, none⟩ = some (.int .u8 a0_22) := (blk_cell BK155.out 22).trans rfl
          have hcz9_23 : w3.cell? ⟨gb155, 23, none⟩ = some (.int .u8 a0_23) := (blk_cell BK155.out 23).trans rfl
          have hcz9_24 : w3.cell? ⟨gb155, 24, none⟩ = some (.int .u8 a0_24) := (blk_cell BK155.out 24).trans rfl
          have hcz9_25 : w3.cell? ⟨gb155, 25, none⟩ = some (.int .u8 a0_25) := (blk_cell BK155.out 25).trans rfl
          have hcz9_26 : w3.cell? ⟨gb155, 26, none⟩ = some (.int .u8 a0_26) := (blk_cell BK155.out 26).trans rfl
          have hcz9_27 : w3.cell? ⟨gb155, 27, none⟩ = some (.int .u8 a0_27) := (blk_cell BK155.out 27).trans rfl
          have hcz9_28 : w3.cell? ⟨gb155, 28, none⟩ = some (.int .u8 a0_28) := (blk_cell BK155.out 28).trans rfl
          have hcz9_29 : w3.cell? ⟨gb155, 29, none⟩ = some (.int .u8 a0_29) := (blk_cell BK155.out 29).trans rfl
          have hcz9_30 : w3.cell? ⟨gb155, 30, none⟩ = some (.int .u8 a0_30) := (blk_cell BK155.out 30).trans rfl
          have hcz9_31 : w3.cell? ⟨gb155, 31, none⟩ = some (.int .u8 a0_31) := (blk_cell BK155.out 31).trans rfl
          have hcz9_32 : w3.cell? ⟨gb155, 32, none⟩ = some (.int .u8 a0_32) := (blk_cell BK155.out 32).trans rfl
          have hcz9_33 : w3.cell? ⟨gb155, 33, none⟩ = some (.int .u8 a0_33) := (blk_cell BK155.out 33).trans rfl
          have hcz9_34 : w3.cell? ⟨gb155, 34, none⟩ = some (.int .u8 a0_34) := (blk_cell BK155.out 34).trans rfl
          have hcz9_35 : w3.cell? ⟨gb155, 35, none⟩ = some (.int .u8 a0_35) := (blk_cell BK155.out 35).trans rfl
          have hcz9_36 : w3.cell? ⟨gb155, 36, none⟩ = some (.int .u8 a0_36) := (blk_cell BK155.out 36).trans rfl
          have hfz9_0 := blk_frozen BK155.out 0
          have hfz9_1 := blk_frozen BK155.out 1
          have hfz9_2 := blk_frozen BK155.out 2
          have hfz9_3 := blk_frozen BK155.out 3
          have hfz9_4 := blk_frozen BK155.out 4
          have hfz9_5 := blk_frozen BK155.out 5
          have hfz9_6 := blk_frozen BK155.out 6
          have hfz9_7 := blk_frozen BK155.out 7
          have hfz9_8 := blk_frozen BK155.out 8
          have hfz9_9 := blk_frozen BK155.out 9
          have hfz9_10 := blk_frozen BK155.out 10
          have hfz9_11 := blk_frozen BK155.out 11
          have hfz9_12 := blk_frozen BK155.out 12
          have hfz9_13 := blk_frozen BK155.out 13
          have hfz9_14 := blk_frozen BK155.out 14
          have hfz9_15 := blk_frozen BK155.out 15
          have hfz9_16 := blk_frozen BK155.out 16
          have hfz9_17 := blk_frozen BK155.out 17
          have hfz9_18 := blk_frozen BK155.out 18
          have hfz9_19 := blk_frozen BK155.out 19
          have hfz9_20 := blk_frozen BK155.out 20
          have hfz9_21 := blk_frozen BK155.out 21
          have hfz9_22 := blk_frozen BK155.out 22
          have hfz9_23 := blk_frozen BK155.out 23
          have hfz9_24 := blk_frozen BK155.out 24
          have hfz9_25 := blk_frozen BK155.out 25
          have hfz9_26 := blk_frozen BK155.out 26
          have hfz9_27 := blk_frozen BK155.out 27
          have hfz9_28 := blk_frozen BK155.out 28
          have hfz9_29 := blk_frozen BK155.out 29
          have hfz9_30 := blk_frozen BK155.out 30
          have hfz9_31 := blk_frozen BK155.out 31
          have hfz9_32 := blk_frozen BK155.out 32
          have hfz9_33 := blk_frozen BK155.out 33
          have hfz9_34 := blk_frozen BK155.out 34
          have hfz9_35 := blk_frozen BK155.out 35
          have hfz9_36 := blk_frozen BK155.out 36
          go_wp2
          go_meet
          case rel => exact ⟨_, (true), (by first | rfl | (simp; done) | (simp [*]; done)), H', ⟨by first | omega | exact Nat.le_refl _⟩, ⟨by (with_reducible repeat (first | refine qN ?_ _ | refine qD ?_ | refine qA ?_ _)); exact BK155.out⟩, ⟨by repeat (first | (with_reducible first | exact HB.out | apply pA | apply pN | apply pD | refine pS ?_ GE155.out) | exact HB.out)⟩⟩
        · rw [if_neg c8] at H
          have c8b0 : decide (a0_1 < 0) = false := decide_eq_false c8
          clear c8
          have H' := Aside0.mk H
          clear H
          have hcz10_0 : w3.cell? ⟨gb155, 0, none⟩ = some (.int .i64 a0_0) := (blk_cell BK155.out 0).trans rfl
          have hcz10_1 : w3.cell? ⟨gb155, 1, none⟩ = some (.int .i64 a0_1) := (blk_cell BK155.out 1).trans rfl
          have hcz10_2 : w3.cell? ⟨gb155, 2, none⟩ = some (.int .i64 a0_2) := (blk_cell BK155.out 2).trans rfl
          have hcz10_3 : w3.cell? ⟨gb155, 3, none⟩ = some (.int .u8 a0_3) := (blk_cell BK155.out 3).trans rfl
          have hcz10_4 : w3.cell? ⟨gb155, 4, none⟩ = some (.int .u8 a0_4) := (blk_cell BK155.out 4).trans rfl
          have hcz10_5 : w3.cell? ⟨gb155, 5, none⟩ = some (.int .u8 a0_5) := (blk_cell BK155.out 5).trans rfl
          have hcz10_6 : w3.cell? ⟨gb155, 6, none⟩ = some (.int .u8 a0_6) := (blk_cell BK155.out 6).trans rfl
          have hcz10_7 : w3.cell? ⟨gb155, 7, none⟩ = some (.int .u8 a0_7) := (blk_cell BK155.out 7).trans rfl
          have hcz10_8 : w3.cell? ⟨gb155, 8, none⟩ = some (.int .u8 a0_8) := (blk_cell BK155.out 8).trans rfl
          have hcz10_9 : w3.cell? ⟨gb155, 9, none⟩ = some (.int .u8 a0_9) := (blk_cell BK155.out 9).trans rfl
          have hcz10_10 : w3.cell? ⟨gb155, 10, none⟩ = some (.int .u8 a0_10) := (blk_cell BK155.out 10).trans rfl
          have hcz10_11 : w3.cell? ⟨gb155, 11, none⟩ = some (.int .u8 a0_11) := (blk_cell BK155.out 11).trans rfl
          have hcz10_12 : w3.cell? ⟨gb155, 12, none⟩ = some (.int .u8 a0_12) := (blk_cell BK155.out 12).trans rfl
          have hcz10_13 : w3.cell? ⟨gb155, 13, none⟩ = some (.int .u8 a0_13) := (blk_cell BK155.out 13).trans rfl
          have hcz10_14 : w3.cell? ⟨gb155, 14, none⟩ = some (.int .u8 a0_14) := (blk_cell BK155.out 14).trans rfl
          have hcz10_15 : w3.cell? ⟨gb155, 15, none⟩ = some (.int .u8 a0_15) := (blk_cell BK155.out 15).trans rfl
          have hcz10_16 : w3.cell? ⟨gb155, 16, none⟩ = some (.int .u8 a0_16) := (blk_cell BK155.out 16).trans rfl
          have hcz10_17 : w3.cell? ⟨gb155, 17, none⟩ = some (.int .u8 a0_17) := (blk_cell BK155.out 17).trans rfl
          have hcz10_18 : w3.cell? ⟨gb155, 18, none⟩ = some (.int .u8 a0_18) := (blk_cell BK155.out 18).trans rfl
          have hcz10_19 : w3.cell? ⟨gb155, 19, none⟩ = some (.int .u8 a0_19) := (blk_cell BK155.out 19).trans rfl
          have hcz10_20 : w3.cell? ⟨gb155, 20, none⟩ = some (.string a0_20) := (blk_cell BK155.out 20).trans rfl
          have hcz10_21 : w3.cell? ⟨gb155, 21, none⟩ = some (.int .u8 a0_21) := (blk_cell BK155.out 21).trans rfl
          have hcz10_22 : w3.cell? ⟨gb155, 22, none⟩ = some (.int .u8 a0_22) := (blk_cell BK155.out 22).trans rfl
          have hcz10_23 : w3.cell? ⟨gb155, 23, none⟩ = some (.int .u8 a0_23) := (blk_cell BK155.out 23).trans rfl
          have hcz10_24 : w3.cell? ⟨gb155, 24, none⟩ = some (.int .u8 a0_24) := (blk_cell BK155.out 24).trans rfl
          have hcz10_25 : w3.cell? ⟨gb155, 25, none⟩ = some (.int .u8 a0_25) := (blk_cell BK155.out 25).trans rfl
          have hcz10_26 : w3.cell? ⟨gb155, 26, none⟩ = some (.int .u8 a0_26) := (blk_cell BK155.out 26).trans rfl
          have hcz10_27 : w3.cell? ⟨gb155, 27, none⟩ = some (.int .u8 a0_27) := (blk_cell BK155.out 27).trans rfl
          have hcz10_28 : w3.cell? ⟨gb155, 28, none⟩ = some (.int .u8 a0_28) := (blk_cell BK155.out 28).trans rfl
          have hcz10_29 : w3.cell? ⟨gb155, 29, none⟩ = some (.int .u8 a0_29) := (blk_cell BK155.out 29).trans rfl
          have hcz10_30 : w3.cell? ⟨gb155, 30, none⟩ = some (.int .u8 a0_30) := (blk_cell BK155.out 30).trans rfl
          have hcz10_31 : w3.cell? ⟨gb155, 31, none⟩ = some (.int .u8 a0_31) := (blk_cell BK155.out 31).trans rfl
          have hcz10_32 : w3.cell? ⟨gb155, 32, none⟩ = some (.int .u8 a0_32) := (blk_cell BK155.out 32).trans rfl
          have hcz10_33 : w3.cell? ⟨gb155, 33, none⟩ = some (.int .u8 a0_33) := (blk_cell BK155.out 33).trans rfl
          have hcz10_34 : w3.cell? ⟨gb155, 34, none⟩ = some (.int .u8 a0_34) := (blk_cell BK155.out 34).trans rfl
          have hcz10_35 : w3.cell? ⟨gb155, 35, none⟩ = some (.int .u8 a0_35) := (blk_cell BK155.out 35).trans rfl
          have hcz10_36 : w3.cell? ⟨gb155, 36, none⟩ = some (.int .u8 a0_36) := (blk_cell BK155.out 36).trans rfl
          have hfz10_0 := blk_frozen BK155.out 0
          have hfz10_1 := blk_frozen BK155.out 1
          have hfz10_2 := blk_frozen BK155.out 2
          have hfz10_3 := blk_frozen BK155.out 3
          have hfz10_4 := blk_frozen BK155.out 4
          have hfz10_5 := blk_frozen BK155.out 5
          have hfz10_6 := blk_frozen BK155.out 6
          have hfz10_7 := blk_frozen BK155.out 7
          have hfz10_8 := blk_frozen BK155.out 8
          have hfz10_9 := blk_frozen BK155.out 9
          have hfz10_10 := blk_frozen BK155.out 10
          have hfz10_11 := blk_frozen BK155.out 11
          have hfz10_12 := blk_frozen BK155.out 12
          have hfz10_13 := blk_frozen BK155.out 13
          have hfz10_14 := blk_frozen BK155.out 14
          have hfz10_15 := blk_frozen BK155.out 15
          have hfz10_16 := blk_frozen BK155.out 16
          have hfz10_17 := blk_frozen BK155.out 17
          have hfz10_18 := blk_frozen BK155.out 18
          have hfz10_19 := blk_frozen BK155.out 19
          have hfz10_20 := blk_frozen BK155.out 20
          have hfz10_21 := blk_frozen BK155.out 21
          have hfz10_22 := blk_frozen BK155.out 22
          have hfz10_23 := blk_frozen BK155.out 23
          have hfz10_24 := blk_frozen BK155.out 24
          have hfz10_25 := blk_frozen BK155.out 25
          have hfz10_26 := blk_frozen BK155.out 26
          have hfz10_27 := blk_frozen BK155.out 27
          have hfz10_28 := blk_frozen BK155.out 28
          have hfz10_29 := blk_frozen BK155.out 29
          have hfz10_30 := blk_frozen BK155.out 30
          have hfz10_31 := blk_frozen BK155.out 31
          have hfz10_32 := blk_frozen BK155.out 32
          have hfz10_33 := blk_frozen BK155.out 33
          have hfz10_34 := blk_frozen BK155.out 34
          have hfz10_35 := blk_frozen BK155.out 35
          have hfz10_36 := blk_frozen BK155.out 36
          go_wp2
          go_meet
          case rel => exact ⟨_, (decide (a0_1 > 4)), (by first | rfl | (simp; done) | (simp [*]; done)), H', ⟨by first | omega | exact Nat.le_refl _⟩, ⟨by (with_reducible repeat (first | refine qN ?_ _ | refine qD ?_ | refine qA ?_ _)); exact BK155.out⟩, ⟨by repeat (first | (with_reducible first | exact HB.out | apply pA | apply pN | apply pD | refine pS ?_ GE155.out) | exact HB.out)⟩⟩
  case rest =>
    clear HC2
    try clear c2
    try clear p2
    try clear c4
    try clear c4b0
    try clear c6
    try clear c6b0
    try clear c8
    try clear c8b0
    try clear hcz10_0
    try clear hcz10_1
    try clear hcz10_10
    try clear hcz10_11
    try clear hcz10_12
    try clear hcz10_13
    try clear hcz10_14
    try clear hcz10_15
    try clear hcz10_16
    try clear hcz10_17
    try clear hcz10_18
    try clear hcz10_19
    try clear hcz10_2
    try clear hcz10_20
    try clear hcz10_21
    try clear hcz10_22
    try clear hcz10_23
    try clear hcz10_24
    try clear hcz10_25
    try clear hcz10_26
    try clear hcz10_27
    try clear hcz10_28
    try clear hcz10_29
    try clear hcz10_3
    try clear hcz10_30
    try clear hcz10_31
    try clear hcz10_32
    try clear hcz10_33
    try clear hcz10_34
    try clear hcz10_35
    try clear hcz10_36
    try clear hcz10_4
    try clear hcz10_5
    try clear hcz10_6
    try clear hcz10_7
    try clear hcz10_8
    try clear hcz10_9
    try clear hcz5_0
    try clear hcz5_1
    try clear hcz5_10
    try clear hcz5_11
    try clear hcz5_12
    try clear hcz5_13
    try clear hcz5_14
    try clear hcz5_15
    try clear hcz5_16
    try clear hcz5_17
    try clear hcz5_18
    try clear hcz5_19
    try clear hcz5_2
    try clear hcz5_20
    try clear hcz5_21
    try clear hcz5_22
    try clear hcz5_23
    try clear hcz5_24
    try clear hcz5_25
    try clear hcz5_26
    try clear hcz5_27
    try clear hcz5_28
    try clear hcz5_29
    try clear hcz5_3
    try clear hcz5_30
    try clear hcz5_31
    try clear hcz5_32
    try clear hcz5_33
    try clear hcz5_34
    try clear hcz5_35
    try clear hcz5_36
    try clear hcz5_4
    try clear hcz5_5
    try clear hcz5_6
    try clear hcz5_7
    try clear hcz5_8
    try clear hcz5_9
    try clear hcz7_0
    try clear hcz7_1
    try clear hcz7_10
    try clear hcz7_11
    try clear hcz7_12
    try clear hcz7_13
    try clear hcz7_14
    try clear hcz7_15
    try clear hcz7_16
    try clear hcz7_17
    try clear hcz7_18
    try clear hcz7_19
    try clear hcz7_2
    try clear hcz7_20
    try clear hcz7_21
    try clear hcz7_22
    try clear hcz7_23
    try clear hcz7_24
    try clear hcz7_25
    try clear hcz7_26
    try clear hcz7_27
    try clear hcz7_28
    try clear hcz7_29
    try clear hcz7_3
    try clear hcz7_30
    try clear hcz7_31
    try clear hcz7_32
    try clear hcz7_33
    try clear hcz7_34
    try clear hcz7_35
    try clear hcz7_36
    try clear hcz7_4
    try clear hcz7_5
    try clear hcz7_6
    try clear hcz7_7
    try clear hcz7_8
    try clear hcz7_9
    try clear hcz9_0
    try clear hcz9_1
    try clear hcz9_10
    try clear hcz9_11
    try clear hcz9_12
    try clear hcz9_13
    try clear hcz9_14
    try clear hcz9_15
    try clear hcz9_16
    try clear hcz9_17
    try clear hcz9_18
    try clear hcz9_19
    try clear hcz9_2
    try clear hcz9_20
    try clear hcz9_21
    try clear hcz9_22
    try clear hcz9_23
    try clear hcz9_24
    try clear hcz9_25
    try clear hcz9_26
    try clear hcz9_27
    try clear hcz9_28
    try clear hcz9_29
    try clear hcz9_3
    try clear hcz9_30
    try clear hcz9_31
    try clear hcz9_32
    try clear hcz9_33
    try clear hcz9_34
    try clear hcz9_35
    try clear hcz9_36
    try clear hcz9_4
    try clear hcz9_5
    try clear hcz9_6
    try clear hcz9_7
    try clear hcz9_8
    try clear hcz9_9
    try clear hfz10_0
    try clear hfz10_1
    try clear hfz10_10
    try clear hfz10_11
    try clear hfz10_12
    try clear hfz10_13
    try clear hfz10_14
    try clear hfz10_15
    try clear hfz10_16
    try clear hfz10_17
    try clear hfz10_18
    try clear hfz10_19
    try clear hfz10_2
    try clear hfz10_20
    try clear hfz10_21
    try clear hfz10_22
    try clear hfz10_23
    try clear hfz10_24
    try clear hfz10_25
    try clear hfz10_26
    try clear hfz10_27
    try clear hfz10_28
    try clear hfz10_29
    try clear hfz10_3
    try clear hfz10_30
    try clear hfz10_31
    try clear hfz10_32
    try clear hfz10_33
    try clear hfz10_34
    try clear hfz10_35
    try clear hfz10_36
    try clear hfz10_4
    try clear hfz10_5
    try clear hfz10_6
    try clear hfz10_7
    try clear hfz10_8
    try clear hfz10_9
    try clear hfz5_0
    try clear hfz5_1
    try clear hfz5_10
    try clear hfz5_11
    try clear hfz5_12
    try clear hfz5_13
    try clear hfz5_14
    try clear hfz5_15
    try clear hfz5_16
    try clear hfz5_17
    try clear hfz5_18
    try clear hfz5_19
    try clear hfz5_2
    try clear hfz5_20
    try clear hfz5_21
    try clear hfz5_22
    try clear hfz5_23
    try clear hfz5_24
    try clear hfz5_25
    try clear hfz5_26
    try clear hfz5_27
    try clear hfz5_28
    try clear hfz5_29
    try clear hfz5_3
    try clear hfz5_30
    try clear hfz5_31
    try clear hfz5_32
    try clear hfz5_33
    try clear hfz5_34
    try clear hfz5_35
    try clear hfz5_36
    try clear hfz5_4
    try clear hfz5_5
    try clear hfz5_6
    try clear hfz5_7
    try clear hfz5_8
    try clear hfz5_9
    try clear hfz7_0
    try clear hfz7_1
    try clear hfz7_10
    try clear hfz7_11
    try clear hfz7_12
    try clear hfz7_13
    try clear hfz7_14
    try clear hfz7_15
    try clear hfz7_16
    try clear hfz7_17
    try clear hfz7_18
    try clear hfz7_19
    try clear hfz7_2
    try clear hfz7_20
    try clear hfz7_21
    try clear hfz7_22
    try clear hfz7_23
    try clear hfz7_24
    try clear hfz7_25
    try clear hfz7_26
    try clear hfz7_27
    try clear hfz7_28
    try clear hfz7_29
    try clear hfz7_3
    try clear hfz7_30
    try clear hfz7_31
    try clear hfz7_32
    try clear hfz7_33
    try clear hfz7_34
    try clear hfz7_35
    try clear hfz7_36
    try clear hfz7_4
    try clear hfz7_5
    try clear hfz7_6
    try clear hfz7_7
    try clear hfz7_8
    try clear hfz7_9
    try clear hfz9_0
    try clear hfz9_1
    try clear hfz9_10
    try clear hfz9_11
    try clear hfz9_12
    try clear hfz9_13
    try clear hfz9_14
    try clear hfz9_15
    try clear hfz9_16
    try clear hfz9_17
    try clear hfz9_18
    try clear hfz9_19
    try clear hfz9_2
    try clear hfz9_20
    try clear hfz9_21
    try clear hfz9_22
    try clear hfz9_23
    try clear hfz9_24
    try clear hfz9_25
    try clear hfz9_26
    try clear hfz9_27
    try clear hfz9_28
    try clear hfz9_29
    try clear hfz9_3
    try clear hfz9_30
    try clear hfz9_31
    try clear hfz9_32
    try clear hfz9_33
    try clear hfz9_34
    try clear hfz9_35
    try clear hfz9_36
    try clear hfz9_4
    try clear hfz9_5
    try clear hfz9_6
    try clear hfz9_7
    try clear hfz9_8
    try clear hfz9_9
    obtain ⟨kq, x20_1, rfl, HA, HJ1, BK155, HB⟩ := hcut
    cases kq with
    | zero => exact absurd HA.out (by simp [chap_Right.j0])
    | succ kj1 =>
      have H := HA.out
      clear HA
      simp only [chap_Right.j0] at H
      by_cases c11 : x20_1 = true
      · subst c11
        have H1 : (some false) = some r := by rw [if_pos rfl] at H; exact H
        clear H
        have H := H1
        clear H1
        obtain rfl := Option.some.inj H
        go_wp2
        go_ret
        exact ⟨by first | rfl | (simp [errW_none, errW_some] <;> rfl) | (simp [*, errW_none, errW_some] <;> rfl), by repeat (first | (with_reducible first | exact HB.out | apply pA | apply pN | apply pD | refine pS ?_ GE155.out) | exact HB.out)⟩
      · replace c11 := Bool.eq_false_iff.mpr c11
        subst c11
        have H1 : (if a0_0 = 1 then (if a0_2 ≥ 1 then (if a0_2 ≤ 4 then (some (decide (a0_1 > 0))) else (some false)) else (some false)) else (some (a0_2 == 0))) = some r := by rw [if_neg (show ¬ (false = true) by decide)] at H; exact H
        clear H
        have H := H1
        clear H1
        by_cases c12 : a0_0 = 1
        · rw [if_pos c12] at H
          have c12b0 : (a0_0 == 1) = true := beq_iff_eq.mpr c12
          have c12b1 : (a0_0 != 1) = false := bne_eq_false_iff_eq.mpr c12
          clear c12
          by_cases c13 : a0_2 ≥ 1
          · rw [if_pos c13] at H
            have c13b0 : decide (1 ≤ a0_2) = true := decide_eq_true c13
            clear c13
            by_cases c14 : a0_2 ≤ 4
            · rw [if_pos c14] at H
              have c14b0 : decide (a0_2 ≤ 4) = true := decide_eq_true c14
              clear c14
              obtain rfl := Option.some.inj H
              have hcz15_0 : wc.cell? ⟨gb155, 0, none⟩ = some (.int .i64 a0_0) := (blk_cell BK155.out 0).trans rfl
              have hcz15_1 : wc.cell? ⟨gb155, 1, none⟩ = some (.int .i64 a0_1) := (blk_cell BK155.out 1).trans rfl
              have hcz15_2 : wc.cell? ⟨gb155, 2, none⟩ = some (.int .i64 a0_2) := (blk_cell BK155.out 2).trans rfl
              have hcz15_3 : wc.cell? ⟨gb155, 3, none⟩ = some (.int .u8 a0_3) := (blk_cell BK155.out 3).trans rfl
              have hcz15_4 : wc.cell? ⟨gb155, 4, none⟩ = some (.int .u8 a0_4) := (blk_cell BK155.out 4).trans rfl
              have hcz15_5 : wc.cell? ⟨gb155, 5, none⟩ = some (.int .u8 a0_5) := (blk_cell BK155.out 5).trans rfl
              have hcz15_6 : wc.cell? ⟨gb155, 6, none⟩ = some (.int .u8 a0_6) := (blk_cell BK155.out 6).trans rfl
              have hcz15_7 : wc.cell? ⟨gb155, 7, none⟩ = some (.int .u8 a0_7) := (blk_cell BK155.out 7).trans rfl
              have hcz15_8 : wc.cell? ⟨gb155, 8, none⟩ = some (.int .u8 a0_8) := (blk_cell BK155.out 8).trans rfl
              have hcz15_9 : wc.cell? ⟨gb155, 9, none⟩ = some (.int .u8 a0_9) := (blk_cell BK155.out 9).trans rfl
              have hcz15_10 : wc.cell? ⟨gb155, 10, none⟩ = some (.int .u8 a0_10) := (blk_cell BK155.out 10).trans rfl
              have hcz15_11 : wc.cell? ⟨gb155, 11, none⟩ = some (.int .u8 a0_11) := (blk_cell BK155.out 11).trans rfl
              have hcz15_12 : wc.cell? ⟨gb155, 12, none⟩ = some (.int .u8 a0_12) := (blk_cell BK155.out 12).trans rfl
              have hcz15_13 : wc.cell? ⟨gb155, 13, none⟩ = some (.int .u8 a0_13) := (blk_cell BK155.out 13).trans rfl
              have hcz15_14 : wc.cell? ⟨gb155, 14, none⟩ = some (.int .u8 a0_14) := (blk_cell BK155.out 14).trans rfl
              have hcz15_15 : wc.cell? ⟨gb155, 15, none⟩ = some (.int .u8 a0_15) := (blk_cell BK155.out 15).trans rfl
              have hcz15_16 : wc.cell? ⟨gb155, 16, none⟩ = some (.int .u8 a0_16) := (blk_cell BK155.out 16).trans rfl
              have hcz15_17 : wc.cell? ⟨gb155, 17, none⟩ = some (.int .u8 a0_17) := (blk_cell BK155.out 17).trans rfl
              have hcz15_18 : wc.cell? ⟨gb155, 18, none⟩ = some (.int .u8 a0_18) := (blk_cell BK155.out 18).trans rfl
              have hcz15_19 : wc.cell? ⟨gb155, 19, none⟩ = some (.int .u8 a0_19) := (blk_cell BK155.out 19).trans rfl
              have hcz15_20 : wc.cell? ⟨gb155, 20, none⟩ = some (.string a0_20) := (blk_cell BK155.out 20).trans rfl
              have hcz15_21 : wc.cell? ⟨gb155, 21, none⟩ = some (.int .u8 a0_21) := (blk_cell BK155.out 21).trans rfl
              have hcz15_22 : wc.cell? ⟨gb155, 22, none⟩ = some (.int .u8 a0_22) := (blk_cell BK155.out 22).trans rfl
              have hcz15_23 : wc.cell? ⟨gb155, 23, none⟩ = some (.int .u8 a0_23) := (blk_cell BK155.out 23).trans rfl
              have hcz15_24 : wc.cell? ⟨gb155, 24, none⟩ = some (.int .u8 a0_24) := (blk_cell BK155.out 24).trans rfl
              have hcz15_25 : wc.cell? ⟨gb155, 25, none⟩ = some (.int .u8 a0_25) := (blk_cell BK155.out 25).trans rfl
              have hcz15_26 : wc.cell? ⟨gb155, 26, none⟩ = some (.int .u8 a0_26) := (blk_cell BK155.out 26).trans rfl
              have hcz15_27 : wc.cell? ⟨gb155, 27, none⟩ = some (.int .u8 a0_27) := (blk_cell BK155.out 27).trans rfl
              have hcz15_28 : wc.cell? ⟨gb155, 28, none⟩ = some (.int .u8 a0_28) := (blk_cell BK155.out 28).trans rfl
              have hcz15_29 : wc.cell? ⟨gb155, 29, none⟩ = some (.int .u8 a0_29) := (blk_cell BK155.out 29).trans rfl
              have hcz15_30 : wc.cell? ⟨gb155, 30, none⟩ = some (.int .u8 a0_30) := (blk_cell BK155.out 30).trans rfl
              have hcz15_31 : wc.cell? ⟨gb155, 31, none⟩ = some (.int .u8 a0_31) := (blk_cell BK155.out 31).trans rfl
              have hcz15_32 : wc.cell? ⟨gb155, 32, none⟩ = some (.int .u8 a0_32) := (blk_cell BK155.out 32).trans rfl
              have hcz15_33 : wc.cell? ⟨gb155, 33, none⟩ = some (.int .u8 a0_33) := (blk_cell BK155.out 33).trans rfl
              have hcz15_34 : wc.cell? ⟨gb155, 34, none⟩ = some (.int .u8 a0_34) := (blk_cell BK155.out 34).trans rfl
              have hcz15_35 : wc.cell? ⟨gb155, 35, none⟩ = some (.int .u8 a0_35) := (blk_cell BK155.out 35).trans rfl
              have hcz15_36 : wc.cell? ⟨gb155, 36, none⟩ = some (.int .u8 a0_36) := (blk_cell BK155.out 36).trans rfl
              have hfz15_0 := blk_frozen BK155.out 0
              have hfz15_1 := blk_frozen BK155.out 1
              have hfz15_2 := blk_frozen BK155.out 2
              have hfz15_3 := blk_frozen BK155.out 3
              have hfz15_4 := blk_frozen BK155.out 4
              have hfz15_5 := blk_frozen BK155.out 5
              have hfz15_6 := blk_frozen BK155.out 6
              have hfz15_7 := blk_frozen BK155.out 7
              have hfz15_8 := blk_frozen BK155.out 8
              have hfz15_9 := blk_frozen BK155.out 9
              have hfz15_10 := blk_frozen BK155.out 10
              have hfz15_11 := blk_frozen BK155.out 11
              have hfz15_12 := blk_frozen BK155.out 12
              have hfz15_13 := blk_frozen BK155.out 13
              have hfz15_14 := blk_frozen BK155.out 14
              have hfz15_15 := blk_frozen BK155.out 15
              have hfz15_16 := blk_frozen BK155.out 16
              have hfz15_17 := blk_frozen BK155.out 17
              have hfz15_18 := blk_frozen BK155.out 18
              have hfz15_19 := blk_frozen BK155.out 19
              have hfz15_20 := blk_frozen BK155.out 20
              have hfz15_21 := blk_frozen BK155.out 21
              have hfz15_22 := blk_frozen BK155.out 22
              have hfz15_23 := blk_frozen BK155.out 23
              have hfz15_24 := blk_frozen BK155.out 24
              have hfz15_25 := blk_frozen BK155.out 25
              have hfz15_26 := blk_frozen BK155.out 26
              have hfz15_27 := blk_frozen BK155.out 27
              have hfz15_28 := blk_frozen BK155.out 28
              have hfz15_29 := blk_frozen BK155.out 29
              have hfz15_30 := blk_frozen BK155.out 30
              have hfz15_31 := blk_frozen BK155.out 31
              have hfz15_32 := blk_frozen BK155.out 32
              have hfz15_33 := blk_frozen BK155.out 33
              have hfz15_34 := blk_frozen BK155.out 34
              have hfz15_35 := blk_frozen BK155.out 35
              have hfz15_36 := blk_frozen BK155.out 36
              go_wp2
              go_ret
              exact ⟨by first | rfl | (simp [errW_none, errW_some] <;> rfl) | (simp [*, errW_none, errW_some] <;> rfl), by repeat (first | (with_reducible first | exact HB.out | apply pA | apply pN | apply pD | refine pS ?_ GE155.out) | exact HB.out)⟩
            · rw [if_neg c14] at H
              have c14b0 : decide (a0_2 ≤ 4) = false := decide_eq_false c14
              clear c14
              obtain rfl := Option.some.inj H
              have hcz16_0 : wc.cell? ⟨gb155, 0, none⟩ = some (.int .i64 a0_0) := (blk_cell BK155.out 0).trans rfl
              have hcz16_1 : wc.cell? ⟨gb155, 1, none⟩ = some (.int .i64 a0_1) := (blk_cell BK155.out 1).trans rfl
              have hcz16_2 : wc.cell? ⟨gb155, 2, none⟩ = some (.int .i64 a0_2) := (blk_cell BK155.out 2).trans rfl
              have hcz16_3 : wc.cell? ⟨gb155, 3, none⟩ = some (.int .u8 a0_3) := (blk_cell BK155.out 3).trans rfl
              have hcz16_4 : wc.cell? ⟨gb155, 4, none⟩ = some (.int .u8 a0_4) := (blk_cell BK155.out 4).trans rfl
              have hcz16_5 : wc.cell? ⟨gb155, 5, none⟩ = some (.int .u8 a0_5) := (blk_cell BK155.out 5).trans rfl
              have hcz16_6 : wc.cell? ⟨gb155, 6, none⟩ = some (.int .u8 a0_6) := (blk_cell BK155.out 6).trans rfl
              have hcz16_7 : wc.cell? ⟨gb155, 7, none⟩ = some (.int .u8 a0_7) := (blk_cell BK155.out 7).trans rfl
              have hcz16_8 : wc.cell? ⟨gb155, 8, none⟩ = some (.int .u8 a0_8) := (blk_cell BK155.out 8).trans rfl
              have hcz16_9 : wc.cell? ⟨gb155, 9, none⟩ = some (.int .u8 a0_9) := (blk_cell BK155.out 9).trans rfl
              have hcz16_10 : wc.cell? ⟨gb155, 10, none⟩ = some (.int .u8 a0_10) := (blk_cell BK155.out 10).trans rfl
              have hcz16_11 : wc.cell? ⟨gb155, 11, none⟩ = some (.int .u8 a0_11) := (blk_cell BK155.out 11).trans rfl
              have hcz16_12 : wc.cell? ⟨gb155, 12, none⟩ = some (.int .u8 a0_12) := (blk_cell BK155.out 12).trans rfl
              have hcz16_13 : wc.cell? ⟨gb155, 13, none⟩ = some (.int .u8 a0_13) := (blk_cell BK155.out 13).trans rfl
              have hcz16_14 : wc.cell? ⟨gb155, 14, none⟩ = some (.int .u8 a0_14) := (blk_cell BK155.out 14).trans rfl
              have hcz16_15 : wc.cell? ⟨gb155, 15, none⟩ = some (.int .u8 a0_15) := (blk_cell BK155.out 15).trans rfl
              have hcz16_16 : wc.cell? ⟨gb155, 16, none⟩ = some (.int .u8 a0_16) := (blk_cell BK155.out 16).trans rfl
              have hcz16_17 : wc.cell? ⟨gb155, 17, none⟩ = some (.int .u8 a0_17) := (blk_cell BK155.out 17).trans rfl
              have hcz16_18 : wc.cell? ⟨gb155, 18, none⟩ = some (.int .u8 a0_18) := (blk_cell BK155.out 18).trans rfl
              have hcz16_19 : wc.cell? ⟨gb155, 19, none⟩ = some (.int .u8 a0_19) := (blk_cell BK155.out 19).trans rfl
              have hcz16_20 : wc.cell? ⟨gb155, 20, none⟩ = some (.string a0_20) := (blk_cell BK155.out 20).trans rfl
              have hcz16_21 : wc.cell? ⟨gb155, 21, none⟩ = some (.int .u8 a0_21) := (blk_cell BK155.out 21).trans rfl
              have hcz16_22 : wc.cell? ⟨gb155, 22, none⟩ = some (.int .u8 a0_22) := (blk_cell BK155.out 22).trans rfl
              have hcz16_23 : wc.cell? ⟨gb155, 23, none⟩ = some (.int .u8 a0_23) := (blk_cell BK155.out 23).trans rfl
              have hcz16_24 : wc.cell? ⟨gb155, 24, none⟩ = some (.int .u8 a0_24) := (blk_cell BK155.out 24).trans rfl
              have hcz16_25 : wc.cell? ⟨gb155, 25, none⟩ = some (.int .u8 a0_25) := (blk_cell BK155.out 25).trans rfl
              have hcz16_26 : wc.cell? ⟨gb155, 26, none⟩ = some (.int .u8 a0_26) := (blk_cell BK155.out 26).trans rfl
              have hcz16_27 : wc.cell? ⟨gb155, 27, none⟩ = some (.int .u8 a0_27) := (blk_cell BK155.out 27).trans rfl
              have hcz16_28 : wc.cell? ⟨gb155, 28, none⟩ = some (.int .u8 a0_28) := (blk_cell BK155.out 28).trans rfl
              have hcz16_29 : wc.cell? ⟨gb155, 29, none⟩ = some (.int .u8 a0_29) := (blk_cell BK155.out 29).trans rfl
              have hcz16_30 : wc.cell? ⟨gb155, 30, none⟩ = some (.int .u8 a0_30) := (blk_cell BK155.out 30).trans rfl
              have hcz16_31 : wc.cell? ⟨gb155, 31, none⟩ = some (.int .u8 a0_31) := (blk_cell BK155.out 31).trans rfl
              have hcz16_32 : wc.cell? ⟨gb155, 32, none⟩ = some (.int .u8 a0_32) := (blk_cell BK155.out 32).trans rfl
              have hcz16_33 : wc.cell? ⟨gb155, 33, none⟩ = some (.int .u8 a0_33) := (blk_cell BK155.out 33).trans rfl
              have hcz16_34 : wc.cell? ⟨gb155, 34, none⟩ = some (.int .u8 a0_34) := (blk_cell BK155.out 34).trans rfl
              have hcz16_35 : wc.cell? ⟨gb155, 35, none⟩ = some (.int .u8 a0_35) := (blk_cell BK155.out 35).trans rfl
              have hcz16_36 : wc.cell? ⟨gb155, 36, none⟩ = some (.int .u8 a0_36) := (blk_cell BK155.out 36).trans rfl
              have hfz16_0 := blk_frozen BK155.out 0
              have hfz16_1 := blk_frozen BK155.out 1
              have hfz16_2 := blk_frozen BK155.out 2
              have hfz16_3 := blk_frozen BK155.out 3
              have hfz16_4 := blk_frozen BK155.out 4
              have hfz16_5 := blk_frozen BK155.out 5
              have hfz16_6 := blk_frozen BK155.out 6
              have hfz16_7 := blk_frozen BK155.out 7
              have hfz16_8 := blk_frozen BK155.out 8
              have hfz16_9 := blk_frozen BK155.out 9
              have hfz16_10 := blk_frozen BK155.out 10
              have hfz16_11 := blk_frozen BK155.out 11
              have hfz16_12 := blk_frozen BK155.out 12
              have hfz16_13 := blk_frozen BK155.out 13
              have hfz16_14 := blk_frozen BK155.out 14
              have hfz16_15 := blk_frozen BK155.out 15
              have hfz16_16 := blk_frozen BK155.out 16
              have hfz16_17 := blk_frozen BK155.out 17
              have hfz16_18 := blk_frozen BK155.out 18
              have hfz16_19 := blk_frozen BK155.out 19
              have hfz16_20 := blk_frozen BK155.out 20
              have hfz16_21 := blk_frozen BK155.out 21
              have hfz16_22 := blk_frozen BK155.out 22
              have hfz16_23 := blk_frozen BK155.out 23
              have hfz16_24 := blk_frozen BK155.out 24
              have hfz16_25 := blk_frozen BK155.out 25
              have hfz16_26 := blk_frozen BK155.out 26
              have hfz16_27 := blk_frozen BK155.out 27
              have hfz16_28 := blk_frozen BK155.out 28
              have hfz16_29 := blk_frozen BK155.out 29
              have hfz16_30 := blk_frozen BK155.out 30
              have hfz16_31 := blk_frozen BK155.out 31
              have hfz16_32 := blk_frozen BK155.out 32
              have hfz16_33 := blk_frozen BK155.out 33
              have hfz16_34 := blk_frozen BK155.out 34
              have hfz16_35 := blk_frozen BK155.out 35
              have hfz16_36 := blk_frozen BK155.out 36
              go_wp2
              go_ret
              exact ⟨by first | rfl | (simp [errW_none, errW_some] <;> rfl) | (simp [*, errW_none, errW_some] <;> rfl), by repeat (first | (with_reducible first | exact HB.out | apply pA | apply pN | apply pD | refine pS ?_ GE155.out) | exact HB.out)⟩
          · rw [if_neg c13] at H
            have c13b0 : decide (1 ≤ a0_2) = false := decide_eq_false c13
            clear c13
            obtain rfl := Option.some.inj H
            have hcz17_0 : wc.cell? ⟨gb155, 0, none⟩ = some (.int .i64 a0_0) := (blk_cell BK155.out 0).trans rfl
            have hcz17_1 : wc.cell? ⟨gb155, 1, none⟩ = some (.int .i64 a0_1) := (blk_cell BK155.out 1).trans rfl
            have hcz17_2 : wc.cell? ⟨gb155, 2, none⟩ = some (.int .i64 a0_2) := (blk_cell BK155.out 2).trans rfl
            have hcz17_3 : wc.cell? ⟨gb155, 3, none⟩ = some (.int .u8 a0_3) := (blk_cell BK155.out 3).trans rfl
            have hcz17_4 : wc.cell? ⟨gb155, 4, none⟩ = some (.int .u8 a0_4) := (blk_cell BK155.out 4).trans rfl
            have hcz17_5 : wc.cell? ⟨gb155, 5, none⟩ = some (.int .u8 a0_5) := (blk_cell BK155.out 5).trans rfl
            have hcz17_6 : wc.cell? ⟨gb155, 6, none⟩ = some (.int .u8 a0_6) := (blk_cell BK155.out 6).trans rfl
            have hcz17_7 : wc.cell? ⟨gb155, 7, none⟩ = some (.int .u8 a0_7) := (blk_cell BK155.out 7).trans rfl
            have hcz17_8 : wc.cell? ⟨gb155, 8, none⟩ = some (.int .u8 a0_8) := (blk_cell BK155.out 8).trans rfl
            have hcz17_9 : wc.cell? ⟨gb155, 9, none⟩ = some (.int .u8 a0_9) := (blk_cell BK155.out 9).trans rfl
            have hcz17_10 : wc.cell? ⟨gb155, 10, none⟩ = some (.int .u8 a0_10) := (blk_cell BK155.out 10).trans rfl
            have hcz17_11 : wc.cell? ⟨gb155, 11, none⟩ = some (.int .u8 a0_11) := (blk_cell BK155.out 11).trans rfl
            have hcz17_12 : wc.cell? ⟨gb155, 12, none⟩ = some (.int .u8 a0_12) := (blk_cell BK155.out 12).trans rfl
            have hcz17_13 : wc.cell? ⟨gb155, 13, none⟩ = some (.int .u8 a0_13) := (blk_cell BK155.out 13).trans rfl
            have hcz17_14 : wc.cell? ⟨gb155, 14, none⟩ = some (.int .u8 a0_14) := (blk_cell BK155.out 14).trans rfl
            have hcz17_15 : wc.cell? ⟨gb155, 15, none⟩ = some (.int .u8 a0_15) := (blk_cell BK155.out 15).trans rfl
            have hcz17_16 : wc.cell? ⟨gb155, 16, none⟩ = some (.int .u8 a0_16) := (blk_cell BK155.out 16).trans rfl
            have hcz17_17 : wc.cell? ⟨gb155, 17, none⟩ = some (.int .u8 a0_17) := (blk_cell BK155.out 17).trans rfl
            have hcz17_18 : wc.cell? ⟨gb155, 18, none⟩ = some (.int .u8 a0_18) := (blk_cell BK155.out 18).trans rfl
            have hcz17_19 : wc.cell? ⟨gb155, 19, none⟩ = some (.int .u8 a0_19) := (blk_cell BK155.out 19).trans rfl
            have hcz17_20 : wc.cell? ⟨gb155, 20, none⟩ = some (.string a0_20) := (blk_cell BK155.out 20).trans rfl
            have hcz17_21 : wc.cell? ⟨gb155, 21, none⟩ = some (.int .u8 a0_21) := (blk_cell BK155.out 21).trans rfl
            have hcz17_22 : wc.cell? ⟨gb155, 22, none⟩ = some (.int .u8 a0_22) := (blk_cell BK155.out 22).trans rfl
            have hcz17_23 : wc.cell? ⟨gb155, 23, none⟩ = some (.int .u8 a0_23) := (blk_cell BK155.out 23).trans rfl
            have hcz17_24 : wc.cell? ⟨gb155, 24, none⟩ = some (.int .u8 a0_24) := (blk_cell BK155.out 24).trans rfl
            have hcz17_25 : wc.cell? ⟨gb155, 25, none⟩ = some (.int .u8 a0_25) := (blk_cell BK155.out 25).trans rfl
            have hcz17_26 : wc.cell? ⟨gb155, 26, none⟩ = some (.int .u8 a0_26) := (blk_cell BK155.out 26).trans rfl
            have hcz17_27 : wc.cell? ⟨gb155, 27, none⟩ = some (.int .u8 a0_27) := (blk_cell BK155.out 27).trans rfl
            have hcz17_28 : wc.cell? ⟨gb155, 28, none⟩ = some (.int .u8 a0_28) := (blk_cell BK155.out 28).trans rfl
            have hcz17_29 : wc.cell? ⟨gb155, 29, none⟩ = some (.int .u8 a0_29) := (blk_cell BK155.out 29).trans rfl
            have hcz17_30 : wc.cell? ⟨gb155, 30, none⟩ = some (.int .u8 a0_30) := (blk_cell BK155.out 30).trans rfl
            have hcz17_31 : wc.cell? ⟨gb155, 31, none⟩ = some (.int .u8 a0_31) := (blk_cell BK155.out 31).trans rfl
            have hcz17_32 : wc.cell? ⟨gb155, 32, none⟩ = some (.int .u8 a0_32) := (blk_cell BK155.out 32).trans rfl
            have hcz17_33 : wc.cell? ⟨gb155, 33, none⟩ = some (.int .u8 a0_33) := (blk_cell BK155.out 33).trans rfl
            have hcz17_34 : wc.cell? ⟨gb155, 34, none⟩ = some (.int .u8 a0_34) := (blk_cell BK155.out 34).trans rfl
            have hcz17_35 : wc.cell? ⟨gb155, 35, none⟩ = some (.int .u8 a0_35) := (blk_cell BK155.out 35).trans rfl
            have hcz17_36 : wc.cell? ⟨gb155, 36, none⟩ = some (.int .u8 a0_36) := (blk_cell BK155.out 36).trans rfl
            have hfz17_0 := blk_frozen BK155.out 0
            have hfz17_1 := blk_frozen BK155.out 1
            have hfz17_2 := blk_frozen BK155.out 2
            have hfz17_3 := blk_frozen BK155.out 3
            have hfz17_4 := blk_frozen BK155.out 4
            have hfz17_5 := blk_frozen BK155.out 5
            have hfz17_6 := blk_frozen BK155.out 6
            have hfz17_7 := blk_frozen BK155.out 7
            have hfz17_8 := blk_frozen BK155.out 8
            have hfz17_9 := blk_frozen BK155.out 9
            have hfz17_10 := blk_frozen BK155.out 10
            have hfz17_11 := blk_frozen BK155.out 11
            have hfz17_12 := blk_frozen BK155.out 12
            have hfz17_13 := blk_frozen BK155.out 13
            have hfz17_14 := blk_frozen BK155.out 14
            have hfz17_15 := blk_frozen BK155.out 15
            have hfz17_16 := blk_frozen BK155.out 16
            have hfz17_17 := blk_frozen BK155.out 17
            have hfz17_18 := blk_frozen BK155.out 18
            have hfz17_19 := blk_frozen BK155.out 19
            have hfz17_20 := blk_frozen BK155.out 20
            have hfz17_21 := blk_frozen BK155.out 21
            have hfz17_22 := blk_frozen BK155.out 22
            have hfz17_23 := blk_frozen BK155.out 23
            have hfz17_24 := blk_frozen BK155.out 24
            have hfz17_25 := blk_frozen BK155.out 25
            have hfz17_26 := blk_frozen BK155.out 26
            have hfz17_27 := blk_frozen BK155.out 27
            have hfz17_28 := blk_frozen BK155.out 28
            have hfz17_29 := blk_frozen BK155.out 29
            have hfz17_30 := blk_frozen BK155.out 30
            have hfz17_31 := blk_frozen BK155.out 31
            have hfz17_32 := blk_frozen BK155.out 32
            have hfz17_33 := blk_frozen BK155.out 33
            have hfz17_34 := blk_frozen BK155.out 34
            have hfz17_35 := blk_frozen BK155.out 35
            have hfz17_36 := blk_frozen BK155.out 36
            go_wp2
            go_ret
            exact ⟨by first | rfl | (simp [errW_none, errW_some] <;> rfl) | (simp [*, errW_none, errW_some] <;> rfl), by repeat (first | (with_reducible first | exact HB.out | apply pA | apply pN | apply pD | refine pS ?_ GE155.out) | exact HB.out)⟩
        · rw [if_neg c12] at H
          have c12b0 : (a0_0 == 1) = false := beq_eq_false_iff_ne.mpr c12
          have c12b1 : (a0_0 != 1) = true := bne_iff_ne.mpr c12
          obtain rfl := Option.some.inj H
          have hcz18_0 : wc.cell? ⟨gb155, 0, none⟩ = some (.int .i64 a0_0) := (blk_cell BK155.out 0).trans rfl
          have hcz18_1 : wc.cell? ⟨gb155, 1, none⟩ = some (.int .i64 a0_1) := (blk_cell BK155.out 1).trans rfl
          have hcz18_2 : wc.cell? ⟨gb155, 2, none⟩ = some (.int .i64 a0_2) := (blk_cell BK155.out 2).trans rfl
          have hcz18_3 : wc.cell? ⟨gb155, 3, none⟩ = some (.int .u8 a0_3) := (blk_cell BK155.out 3).trans rfl
          have hcz18_4 : wc.cell? ⟨gb155, 4, none⟩ = some (.int .u8 a0_4) := (blk_cell BK155.out 4).trans rfl
          have hcz18_5 : wc.cell? ⟨gb155, 5, none⟩ = some (.int .u8 a0_5) := (blk_cell BK155.out 5).trans rfl
          have hcz18_6 : wc.cell? ⟨gb155, 6, none⟩ = some (.int .u8 a0_6) := (blk_cell BK155.out 6).trans rfl
          have hcz18_7 : wc.cell? ⟨gb155, 7, none⟩ = some (.int .u8 a0_7) := (blk_cell BK155.out 7).trans rfl
          have hcz18_8 : wc.cell? ⟨gb155, 8, none⟩ = some (.int .u8 a0_8) := (blk_cell BK155.out 8).trans rfl
          have hcz18_9 : wc.cell? ⟨gb155, 9, none⟩ = some (.int .u8 a0_9) := (blk_cell BK155.out 9).trans rfl
          have hcz18_10 : wc.cell? ⟨gb155, 10, none⟩ = some (.int .u8 a0_10) := (blk_cell BK155.out 10).trans rfl
          have hcz18_11 : wc.cell? ⟨gb155, 11, none⟩ = some (.int .u8 a0_11) := (blk_cell BK155.out 11).trans rfl
          have hcz18_12 : wc.cell? ⟨gb155, 12, none⟩ = some (.int .u8 a0_12) := (blk_cell BK155.out 12).trans rfl
          have hcz18_13 : wc.cell? ⟨gb155, 13, none⟩ = some (.int .u8 a0_13) := (blk_cell BK155.out 13).trans rfl
          have hcz18_14 : wc.cell? ⟨gb155, 14, none⟩ = some (.int .u8 a0_14) := (blk_cell BK155.out 14).trans rfl
          have hcz18_15 : wc.cell? ⟨gb155, 15, none⟩ = some (.int .u8 a0_15) := (blk_cell BK155.out 15).trans rfl
          have hcz18_16 : wc.cell? ⟨gb155, 16, none⟩ = some (.int .u8 a0_16) := (blk_cell BK155.out 16).trans rfl
          have hcz18_17 : wc.cell? ⟨gb155, 17, none⟩ = some (.int .u8 a0_17) := (blk_cell BK155.out 17).trans rfl
          have hcz18_18 : wc.cell? ⟨gb155, 18, none⟩ = some (.int .u8 a0_18) := (blk_cell BK155.out 18).trans rfl
          have hcz18_19 : wc.cell? ⟨gb155, 19, none⟩ = some (.int .u8 a0_19) := (blk_cell BK155.out 19).trans rfl
          have hcz18_20 : wc.cell? ⟨gb155, 20, none⟩ = some (.string a0_20) := (blk_cell BK155.out 20).trans rfl
          have hcz18_21 : wc.cell? ⟨gb155, 21, none⟩ = some (.int .u8 a0_21) := (blk_cell BK155.out 21).trans rfl
          have hcz18_22 : wc.cell? ⟨gb155, 22, none⟩ = some (.int .u8 a0_22) := (blk_cell BK155.out 22).trans rfl
          have hcz18_23 : wc.cell? ⟨gb155, 23, none⟩ = some (.int .u8 a0_23) := (blk_cell BK155.out 23).trans rfl
          have hcz18_24 : wc.cell? ⟨gb155, 24, none⟩ = some (.int .u8 a0_24) := (blk_cell BK155.out 24).trans rfl
          have hcz18_25 : wc.cell? ⟨gb155, 25, none⟩ = some (.int .u8 a0_25) := (blk_cell BK155.out 25).trans rfl
          have hcz18_26 : wc.cell? ⟨gb155, 26, none⟩ = some (.int .u8 a0_26) := (blk_cell BK155.out 26).trans rfl
          have hcz18_27 : wc.cell? ⟨gb155, 27, none⟩ = some (.int .u8 a0_27) := (blk_cell BK155.out 27).trans rfl
          have hcz18_28 : wc.cell? ⟨gb155, 28, none⟩ = some (.int .u8 a0_28) := (blk_cell BK155.out 28).trans rfl
          have hcz18_29 : wc.cell? ⟨gb155, 29, none⟩ = some (.int .u8 a0_29) := (blk_cell BK155.out 29).trans rfl
          have hcz18_30 : wc.cell? ⟨gb155, 30, none⟩ = some (.int .u8 a0_30) := (blk_cell BK155.out 30).trans rfl
          have hcz18_31 : wc.cell? ⟨gb155, 31, none⟩ = some (.int .u8 a0_31) := (blk_cell BK155.out 31).trans rfl
          have hcz18_32 : wc.cell? ⟨gb155, 32, none⟩ = some (.int .u8 a0_32) := (blk_cell BK155.out 32).trans rfl
          have hcz18_33 : wc.cell? ⟨gb155, 33, none⟩ = some (.int .u8 a0_33) := (blk_cell BK155.out 33).trans rfl
          have hcz18_34 : wc.cell? ⟨gb155, 34, none⟩ = some (.int .u8 a0_34) := (blk_cell BK155.out 34).trans rfl
          have hcz18_35 : wc.cell? ⟨gb155, 35, none⟩ = some (.int .u8 a0_35) := (blk_cell BK155.out 35).trans rfl
          have hcz18_36 : wc.cell? ⟨gb155, 36, none⟩ = some (.int .u8 a0_36) := (blk_cell BK155.out 36).trans rfl
          have hfz18_0 := blk_frozen BK155.out 0
          have hfz18_1 := blk_frozen BK155.out 1
          have hfz18_2 := blk_frozen BK155.out 2
          have hfz18_3 := blk_frozen BK155.out 3
          have hfz18_4 := blk_frozen BK155.out 4
          have hfz18_5 := blk_frozen BK155.out 5
          have hfz18_6 := blk_frozen BK155.out 6
          have hfz18_7 := blk_frozen BK155.out 7
          have hfz18_8 := blk_frozen BK155.out 8
          have hfz18_9 := blk_frozen BK155.out 9
          have hfz18_10 := blk_frozen BK155.out 10
          have hfz18_11 := blk_frozen BK155.out 11
          have hfz18_12 := blk_frozen BK155.out 12
          have hfz18_13 := blk_frozen BK155.out 13
          have hfz18_14 := blk_frozen BK155.out 14
          have hfz18_15 := blk_frozen BK155.out 15
          have hfz18_16 := blk_frozen BK155.out 16
          have hfz18_17 := blk_frozen BK155.out 17
          have hfz18_18 := blk_frozen BK155.out 18
          have hfz18_19 := blk_frozen BK155.out 19
          have hfz18_20 := blk_frozen BK155.out 20
          have hfz18_21 := blk_frozen BK155.out 21
          have hfz18_22 := blk_frozen BK155.out 22
          have hfz18_23 := blk_frozen BK155.out 23
          have hfz18_24 := blk_frozen BK155.out 24
          have hfz18_25 := blk_frozen BK155.out 25
          have hfz18_26 := blk_frozen BK155.out 26
          have hfz18_27 := blk_frozen BK155.out 27
          have hfz18_28 := blk_frozen BK155.out 28
          have hfz18_29 := blk_frozen BK155.out 29
          have hfz18_30 := blk_frozen BK155.out 30
          have hfz18_31 := blk_frozen BK155.out 31
          have hfz18_32 := blk_frozen BK155.out 32
          have hfz18_33 := blk_frozen BK155.out 33
          have hfz18_34 := blk_frozen BK155.out 34
          have hfz18_35 := blk_frozen BK155.out 35
          have hfz18_36 := blk_frozen BK155.out 36
          go_wp2
          go_ret
          exact ⟨by first | rfl | (simp [errW_none, errW_some] <;> rfl) | (simp [*, errW_none, errW_some] <;> rfl), by repeat (first | (with_reducible first | exact HB.out | apply pA | apply pN | apply pD | refine pS ?_ GE155.out) | exact HB.out)⟩

end Go.Proofs.Ytpbkdphilcodmaa.Q

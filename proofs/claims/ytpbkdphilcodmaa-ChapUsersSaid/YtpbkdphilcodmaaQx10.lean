-- written by this session's own program (wip/tools/myprint.py), over the kit's print
import Derived.Test.YtpbkdphilcodmaaQx0
namespace Go.Proofs.Ytpbkdphilcodmaa.Q
open Go.RowKit Go.Proofs.YtpbkdphilcodmaaW.PrintWords Go.Proofs.YtpbkdphilcodmaaW.PrintLast Go.Proofs.YtpbkdphilcodmaaW.PrintMore
open Go.Proofs.YtpbkdphilcodmaaV
attribute [local go_sem] max2_int min2_int max_two min_two max_three min_three max_four min_four   -- for this text's walks alone
set_option linter.unusedVariables false
set_option linter.unusedSimpArgs false

/-! ### portreeveref15_Right: function 10 -/
mutual
def portreeveref15_Right.j0 : Nat → Bool → Int → Int → Int → Int → Int → Int → Int → Int → Int → Int → Int → Int → Int → Int → Int → Int → Int → Int → Int → Int → ByteArray → Int → Int → Int → Int → Int → Int → Int → Int → Int → Int → Int → Int → Int → Int → Int → Int → Option (Bool)
  | 0, _, _, _, _, _, _, _, _, _, _, _, _, _, _, _, _, _, _, _, _, _, _, _, _, _, _, _, _, _, _, _, _, _, _, _, _, _, _ => none
  | k + 1, x10, x160000, x160001, x160002, x160003, x160004, x160005, x160006, x160007, x160008, x160009, x160010, x160011, x160012, x160013, x160014, x160015, x160016, x160017, x160018, x160019, x160020, x160021, x160022, x160023, x160024, x160025, x160026, x160027, x160028, x160029, x160030, x160031, x160032, x160033, x160034, x160035, x160036 => if x10 = true then (some false) else (if x160000 = 0 then (portreeveref15_Right.j1 k x160000 (x160000 == 0) x160000 x160001 x160002 x160003 x160004 x160005 x160006 x160007 x160008 x160009 x160010 x160011 x160012 x160013 x160014 x160015 x160016 x160017 x160018 x160019 x160020 x160021 x160022 x160023 x160024 x160025 x160026 x160027 x160028 x160029 x160030 x160031 x160032 x160033 x160034 x160035 x160036) else (if x160000 = 2 then (portreeveref15_Right.j1 k x160000 (x160000 == 2) x160000 x160001 x160002 x160003 x160004 x160005 x160006 x160007 x160008 x160009 x160010 x160011 x160012 x160013 x160014 x160015 x160016 x160017 x160018 x160019 x160020 x160021 x160022 x160023 x160024 x160025 x160026 x160027 x160028 x160029 x160030 x160031 x160032 x160033 x160034 x160035 x160036) else (portreeveref15_Right.j1 k x160000 (x160000 == 3) x160000 x160001 x160002 x160003 x160004 x160005 x160006 x160007 x160008 x160009 x160010 x160011 x160012 x160013 x160014 x160015 x160016 x160017 x160018 x160019 x160020 x160021 x160022 x160023 x160024 x160025 x160026 x160027 x160028 x160029 x160030 x160031 x160032 x160033 x160034 x160035 x160036)))
def portreeveref15_Right.j1 : Nat → Int → Bool → Int → Int → Int → Int → Int → Int → Int → Int → Int → Int → Int → Int → Int → Int → Int → Int → Int → Int → Int → Int → ByteArray → Int → Int → Int → Int → Int → Int → Int → Int → Int → Int → Int → Int → Int → Int → Int → Int → Option (Bool)
  | 0, _, _, _, _, _, _, _, _, _, _, _, _, _, _, _, _, _, _, _, _, _, _, _, _, _, _, _, _, _, _, _, _, _, _, _, _, _, _, _ => none
  | k + 1, x12, x13, x160000, x160001, x160002, x160003, x160004, x160005, x160006, x160007, x160008, x160009, x160010, x160011, x160012, x160013, x160014, x160015, x160016, x160017, x160018, x160019, x160020, x160021, x160022, x160023, x160024, x160025, x160026, x160027, x160028, x160029, x160030, x160031, x160032, x160033, x160034, x160035, x160036 => if x13 = true then (some (x160002 == 0)) else (if x12 = 1 then (if x160002 ≥ 1 then (if x160002 ≤ 4 then (some (decide (x160001 ≥ 1))) else (some false)) else (some false)) else (some false))
end
def portreeveref15_Right.f (k : Nat) (a0_0 : Int) (a0_1 : Int) (a0_2 : Int) (a0_3 : Int) (a0_4 : Int) (a0_5 : Int) (a0_6 : Int) (a0_7 : Int) (a0_8 : Int) (a0_9 : Int) (a0_10 : Int) (a0_11 : Int) (a0_12 : Int) (a0_13 : Int) (a0_14 : Int) (a0_15 : Int) (a0_16 : Int) (a0_17 : Int) (a0_18 : Int) (a0_19 : Int) (a0_20 : ByteArray) (a0_21 : Int) (a0_22 : Int) (a0_23 : Int) (a0_24 : Int) (a0_25 : Int) (a0_26 : Int) (a0_27 : Int) (a0_28 : Int) (a0_29 : Int) (a0_30 : Int) (a0_31 : Int) (a0_32 : Int) (a0_33 : Int) (a0_34 : Int) (a0_35 : Int) (a0_36 : Int) : Option (Bool) := if a0_1 < 0 then (portreeveref15_Right.j0 k true a0_0 a0_1 a0_2 a0_3 a0_4 a0_5 a0_6 a0_7 a0_8 a0_9 a0_10 a0_11 a0_12 a0_13 a0_14 a0_15 a0_16 a0_17 a0_18 a0_19 a0_20 a0_21 a0_22 a0_23 a0_24 a0_25 a0_26 a0_27 a0_28 a0_29 a0_30 a0_31 a0_32 a0_33 a0_34 a0_35 a0_36) else (portreeveref15_Right.j0 k (decide (a0_1 > 4)) a0_0 a0_1 a0_2 a0_3 a0_4 a0_5 a0_6 a0_7 a0_8 a0_9 a0_10 a0_11 a0_12 a0_13 a0_14 a0_15 a0_16 a0_17 a0_18 a0_19 a0_20 a0_21 a0_22 a0_23 a0_24 a0_25 a0_26 a0_27 a0_28 a0_29 a0_30 a0_31 a0_32 a0_33 a0_34 a0_35 a0_36)
theorem portreeveref15_Right.mono_l : ∀ k, (∀ y0 y1 y2 y3 y4 y5 y6 y7 y8 y9 y10 y11 y12 y13 y14 y15 y16 y17 y18 y19 y20 y21 y22 y23 y24 y25 y26 y27 y28 y29 y30 y31 y32 y33 y34 y35 y36 y37, LeO (portreeveref15_Right.j0 k y0 y1 y2 y3 y4 y5 y6 y7 y8 y9 y10 y11 y12 y13 y14 y15 y16 y17 y18 y19 y20 y21 y22 y23 y24 y25 y26 y27 y28 y29 y30 y31 y32 y33 y34 y35 y36 y37) (portreeveref15_Right.j0 (k + 1) y0 y1 y2 y3 y4 y5 y6 y7 y8 y9 y10 y11 y12 y13 y14 y15 y16 y17 y18 y19 y20 y21 y22 y23 y24 y25 y26 y27 y28 y29 y30 y31 y32 y33 y34 y35 y36 y37)) ∧ (∀ y0 y1 y2 y3 y4 y5 y6 y7 y8 y9 y10 y11 y12 y13 y14 y15 y16 y17 y18 y19 y20 y21 y22 y23 y24 y25 y26 y27 y28 y29 y30 y31 y32 y33 y34 y35 y36 y37 y38, LeO (portreeveref15_Right.j1 k y0 y1 y2 y3 y4 y5 y6 y7 y8 y9 y10 y11 y12 y13 y14 y15 y16 y17 y18 y19 y20 y21 y22 y23 y24 y25 y26 y27 y28 y29 y30 y31 y32 y33 y34 y35 y36 y37 y38) (portreeveref15_Right.j1 (k + 1) y0 y1 y2 y3 y4 y5 y6 y7 y8 y9 y10 y11 y12 y13 y14 y15 y16 y17 y18 y19 y20 y21 y22 y23 y24 y25 y26 y27 y28 y29 y30 y31 y32 y33 y34 y35 y36 y37 y38))
  | 0 => ⟨fun _ _ _ _ _ _ _ _ _ _ _ _ _ _ _ _ _ _ _ _ _ _ _ _ _ _ _ _ _ _ _ _ _ _ _ _ _ _ r h => by simp [portreeveref15_Right.j0] at h, fun _ _ _ _ _ _ _ _ _ _ _ _ _ _ _ _ _ _ _ _ _ _ _ _ _ _ _ _ _ _ _ _ _ _ _ _ _ _ _ r h => by simp [portreeveref15_Right.j1] at h⟩
  | k + 1 => by
    obtain ⟨ih0, ih1⟩ := portreeveref15_Right.mono_l k
    refine ⟨?_, ?_⟩
    · intro y0 y1 y2 y3 y4 y5 y6 y7 y8 y9 y10 y11 y12 y13 y14 y15 y16 y17 y18 y19 y20 y21 y22 y23 y24 y25 y26 y27 y28 y29 y30 y31 y32 y33 y34 y35 y36 y37
      unfold portreeveref15_Right.j0
      repeat' first
      | (with_reducible exact ih0 _ _ _ _ _ _ _ _ _ _ _ _ _ _ _ _ _ _ _ _ _ _ _ _ _ _ _ _ _ _ _ _ _ _ _ _ _ _)
      | (with_reducible exact ih1 _ _ _ _ _ _ _ _ _ _ _ _ _ _ _ _ _ _ _ _ _ _ _ _ _ _ _ _ _ _ _ _ _ _ _ _ _ _ _)
      | (with_reducible exact LeO.refl _)
      | (with_reducible exact LeO.none _)
      | (with_reducible refine LeO.ite ?_ ?_)
      | (with_reducible refine LeO.bind ?_ (fun _ => ?_))
      | exact ih0 _ _ _ _ _ _ _ _ _ _ _ _ _ _ _ _ _ _ _ _ _ _ _ _ _ _ _ _ _ _ _ _ _ _ _ _ _ _
      | exact ih1 _ _ _ _ _ _ _ _ _ _ _ _ _ _ _ _ _ _ _ _ _ _ _ _ _ _ _ _ _ _ _ _ _ _ _ _ _ _ _
      | exact LeO.none _
      | refine LeO.ite ?_ ?_
      | refine LeO.bind ?_ (fun _ => ?_)
    · intro y0 y1 y2 y3 y4 y5 y6 y7 y8 y9 y10 y11 y12 y13 y14 y15 y16 y17 y18 y19 y20 y21 y22 y23 y24 y25 y26 y27 y28 y29 y30 y31 y32 y33 y34 y35 y36 y37 y38
      unfold portreeveref15_Right.j1
      repeat' first
      | (with_reducible exact ih0 _ _ _ _ _ _ _ _ _ _ _ _ _ _ _ _ _ _ _ _ _ _ _ _ _ _ _ _ _ _ _ _ _ _ _ _ _ _)
      | (with_reducible exact ih1 _ _ _ _ _ _ _ _ _ _ _ _ _ _ _ _ _ _ _ _ _ _ _ _ _ _ _ _ _ _ _ _ _ _ _ _ _ _ _)
      | (with_reducible exact LeO.refl _)
      | (with_reducible exact LeO.none _)
      | (with_reducible refine LeO.ite ?_ ?_)
      | (with_reducible refine LeO.bind ?_ (fun _ => ?_))
      | exact ih0 _ _ _ _ _ _ _ _ _ _ _ _ _ _ _ _ _ _ _ _ _ _ _ _ _ _ _ _ _ _ _ _ _ _ _ _ _ _
      | exact ih1 _ _ _ _ _ _ _ _ _ _ _ _ _ _ _ _ _ _ _ _ _ _ _ _ _ _ _ _ _ _ _ _ _ _ _ _ _ _ _
      | exact LeO.none _
      | refine LeO.ite ?_ ?_
      | refine LeO.bind ?_ (fun _ => ?_)
theorem portreeveref15_Right.mono : ∀ a0 a1 a2 a3 a4 a5 a6 a7 a8 a9 a10 a11 a12 a13 a14 a15 a16 a17 a18 a19 a20 a21 a22 a23 a24 a25 a26 a27 a28 a29 a30 a31 a32 a33 a34 a35 a36 k, LeO (portreeveref15_Right.f k a0 a1 a2 a3 a4 a5 a6 a7 a8 a9 a10 a11 a12 a13 a14 a15 a16 a17 a18 a19 a20 a21 a22 a23 a24 a25 a26 a27 a28 a29 a30 a31 a32 a33 a34 a35 a36) (portreeveref15_Right.f (k + 1) a0 a1 a2 a3 a4 a5 a6 a7 a8 a9 a10 a11 a12 a13 a14 a15 a16 a17 a18 a19 a20 a21 a22 a23 a24 a25 a26 a27 a28 a29 a30 a31 a32 a33 a34 a35 a36) := by
  intro a0 a1 a2 a3 a4 a5 a6 a7 a8 a9 a10 a11 a12 a13 a14 a15 a16 a17 a18 a19 a20 a21 a22 a23 a24 a25 a26 a27 a28 a29 a30 a31 a32 a33 a34 a35 a36 k
  obtain ⟨ih0, ih1⟩ := portreeveref15_Right.mono_l k
  unfold portreeveref15_Right.f
  repeat' first
      | (with_reducible exact ih0 _ _ _ _ _ _ _ _ _ _ _ _ _ _ _ _ _ _ _ _ _ _ _ _ _ _ _ _ _ _ _ _ _ _ _ _ _ _)
      | (with_reducible exact ih1 _ _ _ _ _ _ _ _ _ _ _ _ _ _ _ _ _ _ _ _ _ _ _ _ _ _ _ _ _ _ _ _ _ _ _ _ _ _ _)
      | (with_reducible exact LeO.refl _)
      | (with_reducible exact LeO.none _)
      | (with_reducible refine LeO.ite ?_ ?_)
      | (with_reducible refine LeO.bind ?_ (fun _ => ?_))
      | exact ih0 _ _ _ _ _ _ _ _ _ _ _ _ _ _ _ _ _ _ _ _ _ _ _ _ _ _ _ _ _ _ _ _ _ _ _ _ _ _
      | exact ih1 _ _ _ _ _ _ _ _ _ _ _ _ _ _ _ _ _ _ _ _ _ _ _ _ _ _ _ _ _ _ _ _ _ _ _ _ _ _ _
      | exact LeO.none _
      | refine LeO.ite ?_ ?_
      | refine LeO.bind ?_ (fun _ => ?_)
set_option maxHeartbeats 8000000 in
set_option maxRecDepth 100000 in
theorem portreeveref15_Right.calls (k : Nat) (a0_0 : Int) (a0_1 : Int) (a0_2 : Int) (a0_3 : Int) (a0_4 : Int) (a0_5 : Int) (a0_6 : Int) (a0_7 : Int) (a0_8 : Int) (a0_9 : Int) (a0_10 : Int) (a0_11 : Int) (a0_12 : Int) (a0_13 : Int) (a0_14 : Int) (a0_15 : Int) (a0_16 : Int) (a0_17 : Int) (a0_18 : Int) (a0_19 : Int) (a0_20 : ByteArray) (a0_21 : Int) (a0_22 : Int) (a0_23 : Int) (a0_24 : Int) (a0_25 : Int) (a0_26 : Int) (a0_27 : Int) (a0_28 : Int) (a0_29 : Int) (a0_30 : Int) (a0_31 : Int) (a0_32 : Int) (a0_33 : Int) (a0_34 : Int) (a0_35 : Int) (a0_36 : Int) (r : Bool) (w : World) (h : portreeveref15_Right.f k a0_0 a0_1 a0_2 a0_3 a0_4 a0_5 a0_6 a0_7 a0_8 a0_9 a0_10 a0_11 a0_12 a0_13 a0_14 a0_15 a0_16 a0_17 a0_18 a0_19 a0_20 a0_21 a0_22 a0_23 a0_24 a0_25 a0_26 a0_27 a0_28 a0_29 a0_30 a0_31 a0_32 a0_33 a0_34 a0_35 a0_36 = some r) :
    Calls Try.prog 10 #[.agg #[.int .i64 a0_0, .int .i64 a0_1, .int .i64 a0_2, .int .u8 a0_3, .int .u8 a0_4, .int .u8 a0_5, .int .u8 a0_6, .int .u8 a0_7, .int .u8 a0_8, .int .u8 a0_9, .int .u8 a0_10, .int .u8 a0_11, .int .u8 a0_12, .int .u8 a0_13, .int .u8 a0_14, .int .u8 a0_15, .int .u8 a0_16, .int .u8 a0_17, .int .u8 a0_18, .int .u8 a0_19, .string a0_20, .int .u8 a0_21, .int .u8 a0_22, .int .u8 a0_23, .int .u8 a0_24, .int .u8 a0_25, .int .u8 a0_26, .int .u8 a0_27, .int .u8 a0_28, .int .u8 a0_29, .int .u8 a0_30, .int .u8 a0_31, .int .u8 a0_32, .int .u8 a0_33, .int .u8 a0_34, .int .u8 a0_35, .int .u8 a0_36]] w fun e w' => e = .returned (.bool r) ∧ Below w.heap.size w w' := by
  have hu24 := Try.underlying24
  have HB := Aside0.mk (Below.refl w.heap.size w)
  have H : (if a0_1 < 0 then (portreeveref15_Right.j0 k true a0_0 a0_1 a0_2 a0_3 a0_4 a0_5 a0_6 a0_7 a0_8 a0_9 a0_10 a0_11 a0_12 a0_13 a0_14 a0_15 a0_16 a0_17 a0_18 a0_19 a0_20 a0_21 a0_22 a0_23 a0_24 a0_25 a0_26 a0_27 a0_28 a0_29 a0_30 a0_31 a0_32 a0_33 a0_34 a0_35 a0_36) else (portreeveref15_Right.j0 k (decide (a0_1 > 4)) a0_0 a0_1 a0_2 a0_3 a0_4 a0_5 a0_6 a0_7 a0_8 a0_9 a0_10 a0_11 a0_12 a0_13 a0_14 a0_15 a0_16 a0_17 a0_18 a0_19 a0_20 a0_21 a0_22 a0_23 a0_24 a0_25 a0_26 a0_27 a0_28 a0_29 a0_30 a0_31 a0_32 a0_33 a0_34 a0_35 a0_36)) = some r := h
  clear h
  have HC2 := Aside0.mk H
  clear H
  go_enter Try.func10, Try.ntmps10
  go_upto_region 1 with (first | ((with_reducible refine gate_dst (N := 1) rfl ?_); refine box_event ?hg (N := 1) ?hd (cs := #[.int .i64 a0_0, .int .i64 a0_1, .int .i64 a0_2, .int .u8 a0_3, .int .u8 a0_4, .int .u8 a0_5, .int .u8 a0_6, .int .u8 a0_7, .int .u8 a0_8, .int .u8 a0_9, .int .u8 a0_10, .int .u8 a0_11, .int .u8 a0_12, .int .u8 a0_13, .int .u8 a0_14, .int .u8 a0_15, .int .u8 a0_16, .int .u8 a0_17, .int .u8 a0_18, .int .u8 a0_19, .string a0_20, .int .u8 a0_21, .int .u8 a0_22, .int .u8 a0_23, .int .u8 a0_24, .int .u8 a0_25, .int .u8 a0_26, .int .u8 a0_27, .int .u8 a0_28, .int .u8 a0_29, .int .u8 a0_30, .int .u8 a0_31, .int .u8 a0_32, .int .u8 a0_33, .int .u8 a0_34, .int .u8 a0_35, .int .u8 a0_36]) (t := 24) ?hr ?_; (case hd => rfl); (case hg => rfl); (case hr => first | (go_simp; done) | (go_simp; rfl)); intro gb159 hg w3 hbox hb; have n0_ := Aside0.mk (below_step (by repeat (first | (with_reducible first | exact HB.out | apply pA | apply pN | apply pD) | exact HB.out)) hb); have n1_ := Aside0.mk (hbox); have n2_ := Aside0.mk ((by rw [hg]; exact (below_size (by repeat (first | (with_reducible first | exact HB.out | apply pA | apply pN | apply pD) | exact HB.out))) : w.heap.size ≤ gb159)); have n3_ := Aside0.mk ((by rw [hg]; exact (below_size (by repeat (first | (with_reducible first | exact HB.out | apply pA | apply pN | apply pD) | exact HB.out))) : w.heap.size ≤ gb159)); clear HB; have HB := n0_; have BK159 := n1_; have GW159 := n2_; have GE159 := n3_; clear n0_ n1_ n2_ n3_; clear hb hbox hg))
  (try simp only [Act.put, List.setIfInBounds_toArray, List.set_cons_zero, List.set_cons_succ])
  go_cut [10] (fun v10 wc => ∃ (kq : Nat) (x10_1 : Bool), v10 = .bool x10_1 ∧ Aside0 (portreeveref15_Right.j0 kq x10_1 a0_0 a0_1 a0_2 a0_3 a0_4 a0_5 a0_6 a0_7 a0_8 a0_9 a0_10 a0_11 a0_12 a0_13 a0_14 a0_15 a0_16 a0_17 a0_18 a0_19 a0_20 a0_21 a0_22 a0_23 a0_24 a0_25 a0_26 a0_27 a0_28 a0_29 a0_30 a0_31 a0_32 a0_33 a0_34 a0_35 a0_36 = some r) ∧ Aside0 (kq ≤ k) ∧ Aside0 (wc.heap[gb159]? = some (.cells #[.int .i64 a0_0, .int .i64 a0_1, .int .i64 a0_2, .int .u8 a0_3, .int .u8 a0_4, .int .u8 a0_5, .int .u8 a0_6, .int .u8 a0_7, .int .u8 a0_8, .int .u8 a0_9, .int .u8 a0_10, .int .u8 a0_11, .int .u8 a0_12, .int .u8 a0_13, .int .u8 a0_14, .int .u8 a0_15, .int .u8 a0_16, .int .u8 a0_17, .int .u8 a0_18, .int .u8 a0_19, .string a0_20, .int .u8 a0_21, .int .u8 a0_22, .int .u8 a0_23, .int .u8 a0_24, .int .u8 a0_25, .int .u8 a0_26, .int .u8 a0_27, .int .u8 a0_28, .int .u8 a0_29, .int .u8 a0_30, .int .u8 a0_31, .int .u8 a0_32, .int .u8 a0_33, .int .u8 a0_34, .int .u8 a0_35, .int .u8 a0_36] 24 (0, 0))) ∧ Aside0 (Below w.heap.size w wc))
  case first =>
    have H := HC2.out
    clear HC2
    by_cases c4 : a0_1 < 0
    · rw [if_pos c4] at H
      have c4b0 : decide (a0_1 < 0) = true := decide_eq_true c4
      clear c4
      (first | rw [c4b0] | (simp only [i64_w, i32_w]; rw [c4b0]) | skip)
      have H' := Aside0.mk H
      clear H
      have hcz5_0 : w3.cell? ⟨gb159, 0, none⟩ = some (.int .i64 a0_0) := (blk_cell BK159.out 0).trans rfl
      have hcz5_1 : w3.cell? ⟨gb159, 1, none⟩ = some (.int .i64 a0_1) := (blk_cell BK159.out 1).trans rfl
      have hcz5_2 : w3.cell? ⟨gb159, 2, none⟩ = some (.int .i64 a0_2) := (blk_cell BK159.out 2).trans rfl
      have hcz5_3 : w3.cell? ⟨gb159, 3, none⟩ = some (.int .u8 a0_3) := (blk_cell BK159.out 3).trans rfl
      have hcz5_4 : w3.cell? ⟨gb159, 4, none⟩ = some (.int .u8 a0_4) := (blk_cell BK159.out 4).trans rfl
      have hcz5_5 : w3.cell? ⟨gb159, 5, none⟩ = some (.int .u8 a0_5) := (blk_cell BK159.out 5).trans rfl
      have hcz5_6 : w3.cell? ⟨gb159, 6, none⟩ = some (.int .u8 a0_6) := (blk_cell BK159.out 6).trans rfl
      have hcz5_7 : w3.cell? ⟨gb159, 7, none⟩ = some (.int .u8 a0_7) := (blk_cell BK159.out 7).trans rfl
      have hcz5_8 : w3.cell? ⟨gb159, 8, none⟩ = some (.int .u8 a0_8) := (blk_cell BK159.out 8).trans rfl
      have hcz5_9 : w3.cell? ⟨gb159, 9, none⟩ = some (.int .u8 a0_9) := (blk_cell BK159.out 9).trans rfl
      have hcz5_10 : w3.cell? ⟨gb159, 10, none⟩ = some (.int .u8 a0_10) := (blk_cell BK159.out 10).trans rfl
      have hcz5_11 : w3.cell? ⟨gb159, 11, none⟩ = some (.int .u8 a0_11) := (blk_cell BK159.out 11).trans rfl
      have hcz5_12 : w3.cell? ⟨gb159, 12, none⟩ = some (.int .u8 a0_12) := (blk_cell BK159.out 12).trans rfl
      have hcz5_13 : w3.cell? ⟨gb159, 13, none⟩ = some (.int .u8 a0_13) := (blk_cell BK159.out 13).trans rfl
      have hcz5_14 : w3.cell? ⟨gb159, 14, none⟩ = some (.int .u8 a0_14) := (blk_cell BK159.out 14).trans rfl
      have hcz5_15 : w3.cell? ⟨gb159, 15, none⟩ = some (.int .u8 a0_15) := (blk_cell BK159.out 15).trans rfl
      have hcz5_16 : w3.cell? ⟨gb159, 16, none⟩ = some (.int .u8 a0_16) := (blk_cell BK159.out 16).trans rfl
      have hcz5_17 : w3.cell? ⟨gb159, 17, none⟩ = some (.int .u8 a0_17) := (blk_cell BK159.out 17).trans rfl
      have hcz5_18 : w3.cell? ⟨gb159, 18, none⟩ = some (.int .u8 a0_18) := (blk_cell BK159.out 18).trans rfl
      have hcz5_19 : w3.cell? ⟨gb159, 19, none⟩ = some (.int .u8 a0_19) := (blk_cell BK159.out 19).trans rfl
      have hcz5_20 : w3.cell? ⟨gb159, 20, none⟩ = some (.string a0_20) := (blk_cell BK159.out 20).trans rfl
      have hcz5_21 : w3.cell? ⟨gb159, 21, none⟩ = some (.int .u8 a0_21) := (blk_cell BK159.out 21).trans rfl
      have hcz5_22 : w3.cell? ⟨gb159, 22, none⟩ = some (.int .u8 a0_22) := (blk_cell BK159.out 22).trans rfl
      have hcz5_23 : w3.cell? ⟨gb159, 23, none⟩ = some (.int .u8 a0_23) := (blk_cell BK159.out 23).trans rfl
      have hcz5_24 : w3.cell? ⟨gb159, 24, none⟩ = some (.int .u8 a0_24) := (blk_cell BK159.out 24).trans rfl
      have hcz5_25 : w3.cell? ⟨gb159, 25, none⟩ = some (.int .u8 a0_25) := (blk_cell BK159.out 25).trans rfl
      have hcz5_26 : w3.cell? ⟨gb159, 26, none⟩ = some (.int .u8 a0_26) := (blk_cell BK159.out 26).trans rfl
      have hcz5_27 : w3.cell? ⟨gb159, 27, none⟩ = some (.int .u8 a0_27) := (blk_cell BK159.out 27).trans rfl
      have hcz5_28 : w3.cell? ⟨gb159, 28, none⟩ = some (.int .u8 a0_28) := (blk_cell BK159.out 28).trans rfl
      have hcz5_29 : w3.cell? ⟨gb159, 29, none⟩ = some (.int .u8 a0_29) := (blk_cell BK159.out 29).trans rfl
      have hcz5_30 : w3.cell? ⟨gb159, 30, none⟩ = some (.int .u8 a0_30) := (blk_cell BK159.out 30).trans rfl
      have hcz5_31 : w3.cell? ⟨gb159, 31, none⟩ = some (.int .u8 a0_31) := (blk_cell BK159.out 31).trans rfl
      have hcz5_32 : w3.cell? ⟨gb159, 32, none⟩ = some (.int .u8 a0_32) := (blk_cell BK159.out 32).trans rfl
      have hcz5_33 : w3.cell? ⟨gb159, 33, none⟩ = some (.int .u8 a0_33) := (blk_cell BK159.out 33).trans rfl
      have hcz5_34 : w3.cell? ⟨gb159, 34, none⟩ = some (.int .u8 a0_34) := (blk_cell BK159.out 34).trans rfl
      have hcz5_35 : w3.cell? ⟨gb159, 35, none⟩ = some (.int .u8 a0_35) := (blk_cell BK159.out 35).trans rfl
      have hcz5_36 : w3.cell? ⟨gb159, 36, none⟩ = some (.int .u8 a0_36) := (blk_cell BK159.out 36).trans rfl
      have hfz5_0 := blk_frozen BK159.out 0
      have hfz5_1 := blk_frozen BK159.out 1
      have hfz5_2 := blk_frozen BK159.out 2
      have hfz5_3 := blk_frozen BK159.out 3
      have hfz5_4 := blk_frozen BK159.out 4
      have hfz5_5 := blk_frozen BK159.out 5
      have hfz5_6 := blk_frozen BK159.out 6
      have hfz5_7 := blk_frozen BK159.out 7
      have hfz5_8 := blk_frozen BK159.out 8
      have hfz5_9 := blk_frozen BK159.out 9
      have hfz5_10 := blk_frozen BK159.out 10
      have hfz5_11 := blk_frozen BK159.out 11
      have hfz5_12 := blk_frozen BK159.out 12
      have hfz5_13 := blk_frozen BK159.out 13
      have hfz5_14 := blk_frozen BK159.out 14
      have hfz5_15 := blk_frozen BK159.out 15
      have hfz5_16 := blk_frozen BK159.out 16
      have hfz5_17 := blk_frozen BK159.out 17
      have hfz5_18 := blk_frozen BK159.out 18
      have hfz5_19 := blk_frozen BK159.out 19
      have hfz5_20 := blk_frozen BK159.out 20
      have hfz5_21 := blk_frozen BK159.out 21
      have hfz5_22 := blk_frozen BK159.out 22
      have hfz5_23 := blk_frozen BK159.out 23
      have hfz5_24 := blk_frozen BK159.out 24
      have hfz5_25 := blk_frozen BK159.out 25
      have hfz5_26 := blk_frozen BK159.out 26
      have hfz5_27 := blk_frozen BK159.out 27
      have hfz5_28 := blk_frozen BK159.out 28
      have hfz5_29 := blk_frozen BK159.out 29
      have hfz5_30 := blk_frozen BK159.out 30
      have hfz5_31 := blk_frozen BK159.out 31
      have hfz5_32 := blk_frozen BK159.out 32
      have hfz5_33 := blk_frozen BK159.out 33
      have hfz5_34 := blk_frozen BK159.out 34
      have hfz5_35 := blk_frozen BK159.out 35
      have hfz5_36 := blk_frozen BK159.out 36
      go_wp2
      go_meet
      case rel => exact ⟨_, (true), (by first | rfl | (simp; done) | (simp [*]; done)), H', ⟨by first | omega | exact Nat.le_refl _⟩, ⟨by (with_reducible repeat (first | refine qN ?_ _ | refine qD ?_ | refine qA ?_ _)); exact BK159.out⟩, ⟨by repeat (first | (with_reducible first | exact HB.out | apply pA | apply pN | apply pD | refine pS ?_ GE159.out) | exact HB.out)⟩⟩
    · rw [if_neg c4] at H
      have c4b0 : decide (a0_1 < 0) = false := decide_eq_false c4
      clear c4
      (first | rw [c4b0] | (simp only [i64_w, i32_w]; rw [c4b0]) | skip)
      have H' := Aside0.mk H
      clear H
      have hcz6_0 : w3.cell? ⟨gb159, 0, none⟩ = some (.int .i64 a0_0) := (blk_cell BK159.out 0).trans rfl
      have hcz6_1 : w3.cell? ⟨gb159, 1, none⟩ = some (.int .i64 a0_1) := (blk_cell BK159.out 1).trans rfl
      have hcz6_2 : w3.cell? ⟨gb159, 2, none⟩ = some (.int .i64 a0_2) := (blk_cell BK159.out 2).trans rfl
      have hcz6_3 : w3.cell? ⟨gb159, 3, none⟩ = some (.int .u8 a0_3) := (blk_cell BK159.out 3).trans rfl
      have hcz6_4 : w3.cell? ⟨gb159, 4, none⟩ = some (.int .u8 a0_4) := (blk_cell BK159.out 4).trans rfl
      have hcz6_5 : w3.cell? ⟨gb159, 5, none⟩ = some (.int .u8 a0_5) := (blk_cell BK159.out 5).trans rfl
      have hcz6_6 : w3.cell? ⟨gb159, 6, none⟩ = some (.int .u8 a0_6) := (blk_cell BK159.out 6).trans rfl
      have hcz6_7 : w3.cell? ⟨gb159, 7, none⟩ = some (.int .u8 a0_7) := (blk_cell BK159.out 7).trans rfl
      have hcz6_8 : w3.cell? ⟨gb159, 8, none⟩ = some (.int .u8 a0_8) := (blk_cell BK159.out 8).trans rfl
      have hcz6_9 : w3.cell? ⟨gb159, 9, none⟩ = some (.int .u8 a0_9) := (blk_cell BK159.out 9).trans rfl
      have hcz6_10 : w3.cell? ⟨gb159, 10, none⟩ = some (.int .u8 a0_10) := (blk_cell BK159.out 10).trans rfl
      have hcz6_11 : w3.cell? ⟨gb159, 11, none⟩ = some (.int .u8 a0_11) := (blk_cell BK159.out 11).trans rfl
      have hcz6_12 : w3.cell? ⟨gb159, 12, none⟩ = some (.int .u8 a0_12) := (blk_cell BK159.out 12).trans rfl
      have hcz6_13 : w3.cell? ⟨gb159, 13, none⟩ = some (.int .u8 a0_13) := (blk_cell BK159.out 13).trans rfl
      have hcz6_14 : w3.cell? ⟨gb159, 14, none⟩ = some (.int .u8 a0_14) := (blk_cell BK159.out 14).trans rfl
      have hcz6_15 : w3.cell? ⟨gb159, 15, none⟩ = some (.int .u8 a0_15) := (blk_cell BK159.out 15).trans rfl
      have hcz6_16 : w3.cell? ⟨gb159, 16, none⟩ = some (.int .u8 a0_16) := (blk_cell BK159.out 16).trans rfl
      have hcz6_17 : w3.cell? ⟨gb159, 17, none⟩ = some (.int .u8 a0_17) := (blk_cell BK159.out 17).trans rfl
      have hcz6_18 : w3.cell? ⟨gb159, 18, none⟩ = some (.int .u8 a0_18) := (blk_cell BK159.out 18).trans rfl
      have hcz6_19 : w3.cell? ⟨gb159, 19, none⟩ = some (.int .u8 a0_19) := (blk_cell BK159.out 19).trans rfl
      have hcz6_20 : w3.cell? ⟨gb159, 20, none⟩ = some (.string a0_20) := (blk_cell BK159.out 20).trans rfl
      have hcz6_21 : w3.cell? ⟨gb159, 21, none⟩ = some (.int .u8 a0_21) := (blk_cell BK159.out 21).trans rfl
      have hcz6_22 : w3.cell? ⟨gb159, 22, none⟩ = some (.int .u8 a0_22) := (blk_cell BK159.out 22).trans rfl
      have hcz6_23 : w3.cell? ⟨gb159, 23, none⟩ = some (.int .u8 a0_23) := (blk_cell BK159.out 23).trans rfl
      have hcz6_24 : w3.cell? ⟨gb159, 24, none⟩ = some (.int .u8 a0_24) := (blk_cell BK159.out 24).trans rfl
      have hcz6_25 : w3.cell? ⟨gb159, 25, none⟩ = some (.int .u8 a0_25) := (blk_cell BK159.out 25).trans rfl
      have hcz6_26 : w3.cell? ⟨gb159, 26, none⟩ = some (.int .u8 a0_26) := (blk_cell BK159.out 26).trans rfl
      have hcz6_27 : w3.cell? ⟨gb159, 27, none⟩ = some (.int .u8 a0_27) := (blk_cell BK159.out 27).trans rfl
      have hcz6_28 : w3.cell? ⟨gb159, 28, none⟩ = some (.int .u8 a0_28) := (blk_cell BK159.out 28).trans rfl
      have hcz6_29 : w3.cell? ⟨gb159, 29, none⟩ = some (.int .u8 a0_29) := (blk_cell BK159.out 29).trans rfl
      have hcz6_30 : w3.cell? ⟨gb159, 30, none⟩ = some (.int .u8 a0_30) := (blk_cell BK159.out 30).trans rfl
      have hcz6_31 : w3.cell? ⟨gb159, 31, none⟩ = some (.int .u8 a0_31) := (blk_cell BK159.out 31).trans rfl
      have hcz6_32 : w3.cell? ⟨gb159, 32, none⟩ = some (.int .u8 a0_32) := (blk_cell BK159.out 32).trans rfl
      have hcz6_33 : w3.cell? ⟨gb159, 33, none⟩ = some (.int .u8 a0_33) := (blk_cell BK159.out 33).trans rfl
      have hcz6_34 : w3.cell? ⟨gb159, 34, none⟩ = some (.int .u8 a0_34) := (blk_cell BK159.out 34).trans rfl
      have hcz6_35 : w3.cell? ⟨gb159, 35, none⟩ = some (.int .u8 a0_35) := (blk_cell BK159.out 35).trans rfl
      have hcz6_36 : w3.cell? ⟨gb159, 36, none⟩ = some (.int .u8 a0_36) := (blk_cell BK159.out 36).trans rfl
      have hfz6_0 := blk_frozen BK159.out 0
      have hfz6_1 := blk_frozen BK159.out 1
      have hfz6_2 := blk_frozen BK159.out 2
      have hfz6_3 := blk_frozen BK159.out 3
      have hfz6_4 := blk_frozen BK159.out 4
      have hfz6_5 := blk_frozen BK159.out 5
      have hfz6_6 := blk_frozen BK159.out 6
      have hfz6_7 := blk_frozen BK159.out 7
      have hfz6_8 := blk_frozen BK159.out 8
      have hfz6_9 := blk_frozen BK159.out 9
      have hfz6_10 := blk_frozen BK159.out 10
      have hfz6_11 := blk_frozen BK159.out 11
      have hfz6_12 := blk_frozen BK159.out 12
      have hfz6_13 := blk_frozen BK159.out 13
      have hfz6_14 := blk_frozen BK159.out 14
      have hfz6_15 := blk_frozen BK159.out 15
      have hfz6_16 := blk_frozen BK159.out 16
      have hfz6_17 := blk_frozen BK159.out 17
      have hfz6_18 := blk_frozen BK159.out 18
      have hfz6_19 := blk_frozen BK159.out 19
      have hfz6_20 := blk_frozen BK159.out 20
      have hfz6_21 := blk_frozen BK159.out 21
      have hfz6_22 := blk_frozen BK159.out 22
      have hfz6_23 := blk_frozen BK159.out 23
      have hfz6_24 := blk_frozen BK159.out 24
      have hfz6_25 := blk_frozen BK159.out 25
      have hfz6_26 := blk_frozen BK159.out 26
      have hfz6_27 := blk_frozen BK159.out 27
      have hfz6_28 := blk_frozen BK159.out 28
      have hfz6_29 := blk_frozen BK159.out 29
      have hfz6_30 := blk_frozen BK159.out 30
      have hfz6_31 := blk_frozen BK159.out 31
      have hfz6_32 := blk_frozen BK159.out 32
      have hfz6_33 := blk_frozen BK159.out 33
      have hfz6_34 := blk_frozen BK159.out 34
      have hfz6_35 := blk_frozen BK159.out 35
      have hfz6_36 := blk_frozen BK159.out 36
      go_wp2
      go_meet
      case rel => exact ⟨_, (decide (a0_1 > 4)), (by first | rfl | (simp; done) | (simp [*]; done)), H', ⟨by first | omega | exact Nat.le_refl _⟩, ⟨by (with_reducible repeat (first | refine qN ?_ _ | refine qD ?_ | refine qA ?_ _)); exact BK159.out⟩, ⟨by repeat (first | (with_reducible first | exact HB.out | apply pA | apply pN | apply pD | refine pS ?_ GE159.out) | exact HB.out)⟩⟩
  case rest =>
    clear HC2
    try clear c1
    try clear p2
    try clear c4
    try clear c4b0
    try clear hcz5_0
    try clear hcz5_1
    try clear hcz5_10
    try clear hcz5_11
    try clear hcz5_12
    try clear hcz5_13
    try clear hcz5_14
    try clear hcz5_15
    try clear hcz5_16
    try clear hcz5_17
    try clear hcz5_18
    try clear hcz5_19
    try clear hcz5_2
    try clear hcz5_20
    try clear hcz5_21
    try clear hcz5_22
    try clear hcz5_23
    try clear hcz5_24
    try clear hcz5_25
    try clear hcz5_26
    try clear hcz5_27
    try clear hcz5_28
    try clear hcz5_29
    try clear hcz5_3
    try clear hcz5_30
    try clear hcz5_31
    try clear hcz5_32
    try clear hcz5_33
    try clear hcz5_34
    try clear hcz5_35
    try clear hcz5_36
    try clear hcz5_4
    try clear hcz5_5
    try clear hcz5_6
    try clear hcz5_7
    try clear hcz5_8
    try clear hcz5_9
    try clear hcz6_0
    try clear hcz6_1
    try clear hcz6_10
    try clear hcz6_11
    try clear hcz6_12
    try clear hcz6_13
    try clear hcz6_14
    try clear hcz6_15
    try clear hcz6_16
    try clear hcz6_17
    try clear hcz6_18
    try clear hcz6_19
    try clear hcz6_2
    try clear hcz6_20
    try clear hcz6_21
    try clear hcz6_22
    try clear hcz6_23
    try clear hcz6_24
    try clear hcz6_25
    try clear hcz6_26
    try clear hcz6_27
    try clear hcz6_28
    try clear hcz6_29
    try clear hcz6_3
    try clear hcz6_30
    try clear hcz6_31
    try clear hcz6_32
    try clear hcz6_33
    try clear hcz6_34
    try clear hcz6_35
    try clear hcz6_36
    try clear hcz6_4
    try clear hcz6_5
    try clear hcz6_6
    try clear hcz6_7
    try clear hcz6_8
    try clear hcz6_9
    try clear hfz5_0
    try clear hfz5_1
    try clear hfz5_10
    try clear hfz5_11
    try clear hfz5_12
    try clear hfz5_13
    try clear hfz5_14
    try clear hfz5_15
    try clear hfz5_16
    try clear hfz5_17
    try clear hfz5_18
    try clear hfz5_19
    try clear hfz5_2
    try clear hfz5_20
    try clear hfz5_21
    try clear hfz5_22
    try clear hfz5_23
    try clear hfz5_24
    try clear hfz5_25
    try clear hfz5_26
    try clear hfz5_27
    try clear hfz5_28
    try clear hfz5_29
    try clear hfz5_3
    try clear hfz5_30
    try clear hfz5_31
    try clear hfz5_32
    try clear hfz5_33
    try clear hfz5_34
    try clear hfz5_35
    try clear hfz5_36
    try clear hfz5_4
    try clear hfz5_5
    try clear hfz5_6
    try clear hfz5_7
    try clear hfz5_8
    try clear hfz5_9
    try clear hfz6_0
    try clear hfz6_1
    try clear hfz6_10
    try clear hfz6_11
    try clear hfz6_12
    try clear hfz6_13
    try clear hfz6_14
    try clear hfz6_15
    try clear hfz6_16
    try clear hfz6_17
    try clear hfz6_18
    try clear hfz6_19
    try clear hfz6_2
    try clear hfz6_20
    try clear hfz6_21
    try clear hfz6_22
    try clear hfz6_23
    try clear hfz6_24
    try clear hfz6_25
    try clear hfz6_26
    try clear hfz6_27
    try clear hfz6_28
    try clear hfz6_29
    try clear hfz6_3
    try clear hfz6_30
    try clear hfz6_31
    try clear hfz6_32
    try clear hfz6_33
    try clear hfz6_34
    try clear hfz6_35
    try clear hfz6_36
    try clear hfz6_4
    try clear hfz6_5
    try clear hfz6_6
    try clear hfz6_7
    try clear hfz6_8
    try clear hfz6_9
    obtain ⟨kq, x10_1, rfl, HA, HJ1, BK159, HB⟩ := hcut
    cases kq with
    | zero => exact absurd HA.out (by simp [portreeveref15_Right.j0])
    | succ kj1 =>
      have H := HA.out
      clear HA
      simp only [portreeveref15_Right.j0] at H
      by_cases c7 : x10_1 = true
      · subst c7
        have H1 : (some false) = some r := by rw [if_pos rfl] at H; exact H
        clear H
        have H := H1
        clear H1
        obtain rfl := Option.some.inj H
        go_wp2
        go_ret
        exact ⟨by first | rfl | (simp [errW_none, errW_some] <;> rfl) | (simp [*, errW_none, errW_some] <;> rfl), by repeat (first | (with_reducible first | exact HB.out | apply pA | apply pN | apply pD | refine pS ?_ GE159.out) | exact HB.out)⟩
      · replace c7 := Bool.eq_false_iff.mpr c7
        subst c7
        have H1 : (if a0_0 = 0 then (portreeveref15_Right.j1 kj1 a0_0 (a0_0 == 0) a0_0 a0_1 a0_2 a0_3 a0_4 a0_5 a0_6 a0_7 a0_8 a0_9 a0_10 a0_11 a0_12 a0_13 a0_14 a0_15 a0_16 a0_17 a0_18 a0_19 a0_20 a0_21 a0_22 a0_23 a0_24 a0_25 a0_26 a0_27 a0_28 a0_29 a0_30 a0_31 a0_32 a0_33 a0_34 a0_35 a0_36) else (if a0_0 = 2 then (portreeveref15_Right.j1 kj1 a0_0 (a0_0 == 2) a0_0 a0_1 a0_2 a0_3 a0_4 a0_5 a0_6 a0_7 a0_8 a0_9 a0_10 a0_11 a0_12 a0_13 a0_14 a0_15 a0_16 a0_17 a0_18 a0_19 a0_20 a0_21 a0_22 a0_23 a0_24 a0_25 a0_26 a0_27 a0_28 a0_29 a0_30 a0_31 a0_32 a0_33 a0_34 a0_35 a0_36) else (portreeveref15_Right.j1 kj1 a0_0 (a0_0 == 3) a0_0 a0_1 a0_2 a0_3 a0_4 a0_5 a0_6 a0_7 a0_8 a0_9 a0_10 a0_11 a0_12 a0_13 a0_14 a0_15 a0_16 a0_17 a0_18 a0_19 a0_20 a0_21 a0_22 a0_23 a0_24 a0_25 a0_26 a0_27 a0_28 a0_29 a0_30 a0_31 a0_32 a0_33 a0_34 a0_35 a0_36))) = some r := by rw [if_neg (show ¬ (false = true) by decide)] at H; exact H
        clear H
        have H := H1
        clear H1
        have HC8 := Aside0.mk H
        clear H
        have hcz9_0 : wc.cell? ⟨gb159, 0, none⟩ = some (.int .i64 a0_0) := (blk_cell BK159.out 0).trans rfl
        have hcz9_1 : wc.cell? ⟨gb159, 1, none⟩ = some (.int .i64 a0_1) := (blk_cell BK159.out 1).trans rfl
        have hcz9_2 : wc.cell? ⟨gb159, 2, none⟩ = some (.int .i64 a0_2) := (blk_cell BK159.out 2).trans rfl
        have hcz9_3 : wc.cell? ⟨gb159, 3, none⟩ = some (.int .u8 a0_3) := (blk_cell BK159.out 3).trans rfl
        have hcz9_4 : wc.cell? ⟨gb159, 4, none⟩ = some (.int .u8 a0_4) := (blk_cell BK159.out 4).trans rfl
        have hcz9_5 : wc.cell? ⟨gb159, 5, none⟩ = some (.int .u8 a0_5) := (blk_cell BK159.out 5).trans rfl
        have hcz9_6 : wc.cell? ⟨gb159, 6, none⟩ = some (.int .u8 a0_6) := (blk_cell BK159.out 6).trans rfl
        have hcz9_7 : wc.cell? ⟨gb159, 7, none⟩ = some (.int .u8 a0_7) := (blk_cell BK159.out 7).trans rfl
        have hcz9_8 : wc.cell? ⟨gb159, 8, none⟩ = some (.int .u8 a0_8) := (blk_cell BK159.out 8).trans rfl
        have hcz9_9 : wc.cell? ⟨gb159, 9, none⟩ = some (.int .u8 a0_9) := (blk_cell BK159.out 9).trans rfl
        have hcz9_10 : wc.cell? ⟨gb159, 10, none⟩ = some (.int .u8 a0_10) := (blk_cell BK159.out 10).trans rfl
        have hcz9_11 : wc.cell? ⟨gb159, 11, none⟩ = some (.int .u8 a0_11) := (blk_cell BK159.out 11).trans rfl
        have hcz9_12 : wc.cell? ⟨gb159, 12, none⟩ = some (.int .u8 a0_12) := (blk_cell BK159.out 12).trans rfl
        have hcz9_13 : wc.cell? ⟨gb159, 13, none⟩ = some (.int .u8 a0_13) := (blk_cell BK159.out 13).trans rfl
        have hcz9_14 : wc.cell? ⟨gb159, 14, none⟩ = some (.int .u8 a0_14) := (blk_cell BK159.out 14).trans rfl
        have hcz9_15 : wc.cell? ⟨gb159, 15, none⟩ = some (.int .u8 a0_15) := (blk_cell BK159.out 15).trans rfl
        have hcz9_16 : wc.cell? ⟨gb159, 16, none⟩ = some (.int .u8 a0_16) := (blk_cell BK159.out 16).trans rfl
        have hcz9_17 : wc.cell? ⟨gb159, 17, none⟩ = some (.int .u8 a0_17) := (blk_cell BK159.out 17).trans rfl
        have hcz9_18 : wc.cell? ⟨gb159, 18, none⟩ = some (.int .u8 a0_18) := (blk_cell BK159.out 18).trans rfl
        have hcz9_19 : wc.cell? ⟨gb159, 19, none⟩ = some (.int .u8 a0_19) := (blk_cell BK159.out 19).trans rfl
        have hcz9_20 : wc.cell? ⟨gb159, 20, none⟩ = some (.string a0_20) := (blk_cell BK159.out 20).trans rfl
        have hcz9_21 : wc.cell? ⟨gb159, 21, none⟩ = some (.int .u8 a0_21) := (blk_cell BK159.out 21).trans rfl
        have hcz9_22 : wc.cell? ⟨gb159, 22, none⟩ = some (.int .u8 a0_22) := (blk_cell BK159.out 22).trans rfl
        have hcz9_23 : wc.cell? ⟨gb159, 23, none⟩ = some (.int .u8 a0_23) := (blk_cell BK159.out 23).trans rfl
        have hcz9_24 : wc.cell? ⟨gb159, 24, none⟩ = some (.int .u8 a0_24) := (blk_cell BK159.out 24).trans rfl
        have hcz9_25 : wc.cell? ⟨gb159, 25, none⟩ = some (.int .u8 a0_25) := (blk_cell BK159.out 25).trans rfl
        have hcz9_26 : wc.cell? ⟨gb159, 26, none⟩ = some (.int .u8 a0_26) := (blk_cell BK159.out 26).trans rfl
        have hcz9_27 : wc.cell? ⟨gb159, 27, none⟩ = some (.int .u8 a0_27) := (blk_cell BK159.out 27).trans rfl
        have hcz9_28 : wc.cell? ⟨gb159, 28, none⟩ = some (.int .u8 a0_28) := (blk_cell BK159.out 28).trans rfl
        have hcz9_29 : wc.cell? ⟨gb159, 29, none⟩ = some (.int .u8 a0_29) := (blk_cell BK159.out 29).trans rfl
        have hcz9_30 : wc.cell? ⟨gb159, 30, none⟩ = some (.int .u8 a0_30) := (blk_cell BK159.out 30).trans rfl
        have hcz9_31 : wc.cell? ⟨gb159, 31, none⟩ = some (.int .u8 a0_31) := (blk_cell BK159.out 31).trans rfl
        have hcz9_32 : wc.cell? ⟨gb159, 32, none⟩ = some (.int .u8 a0_32) := (blk_cell BK159.out 32).trans rfl
        have hcz9_33 : wc.cell? ⟨gb159, 33, none⟩ = some (.int .u8 a0_33) := (blk_cell BK159.out 33).trans rfl
        have hcz9_34 : wc.cell? ⟨gb159, 34, none⟩ = some (.int .u8 a0_34) := (blk_cell BK159.out 34).trans rfl
        have hcz9_35 : wc.cell? ⟨gb159, 35, none⟩ = some (.int .u8 a0_35) := (blk_cell BK159.out 35).trans rfl
        have hcz9_36 : wc.cell? ⟨gb159, 36, none⟩ = some (.int .u8 a0_36) := (blk_cell BK159.out 36).trans rfl
        have hfz9_0 := blk_frozen BK159.out 0
        have hfz9_1 := blk_frozen BK159.out 1
        have hfz9_2 := blk_frozen BK159.out 2
        have hfz9_3 := blk_frozen BK159.out 3
        have hfz9_4 := blk_frozen BK159.out 4
        have hfz9_5 := blk_frozen BK159.out 5
        have hfz9_6 := blk_frozen BK159.out 6
        have hfz9_7 := blk_frozen BK159.out 7
        have hfz9_8 := blk_frozen BK159.out 8
        have hfz9_9 := blk_frozen BK159.out 9
        have hfz9_10 := blk_frozen BK159.out 10
        have hfz9_11 := blk_frozen BK159.out 11
        have hfz9_12 := blk_frozen BK159.out 12
        have hfz9_13 := blk_frozen BK159.out 13
        have hfz9_14 := blk_frozen BK159.out 14
        have hfz9_15 := blk_frozen BK159.out 15
        have hfz9_16 := blk_frozen BK159.out 16
        have hfz9_17 := blk_frozen BK159.out 17
        have hfz9_18 := blk_frozen BK159.out 18
        have hfz9_19 := blk_frozen BK159.out 19
        have hfz9_20 := blk_frozen BK159.out 20
        have hfz9_21 := blk_frozen BK159.out 21
        have hfz9_22 := blk_frozen BK159.out 22
        have hfz9_23 := blk_frozen BK159.out 23
        have hfz9_24 := blk_frozen BK159.out 24
        have hfz9_25 := blk_frozen BK159.out 25
        have hfz9_26 := blk_frozen BK159.out 26
        have hfz9_27 := blk_frozen BK159.out 27
        have hfz9_28 := blk_frozen BK159.out 28
        have hfz9_29 := blk_frozen BK159.out 29
        have hfz9_30 := blk_frozen BK159.out 30
        have hfz9_31 := blk_frozen BK159.out 31
        have hfz9_32 := blk_frozen BK159.out 32
        have hfz9_33 := blk_frozen BK159.out 33
        have hfz9_34 := blk_frozen BK159.out 34
        have hfz9_35 := blk_frozen BK159.out 35
        have hfz9_36 := blk_frozen BK159.out 36
        go_upto_if 13 with (fail)
        go_cut [13] (fun v13 wc => ∃ (kq : Nat) (x13_7 : Bool), v13 = .bool x13_7 ∧ Aside0 (portreeveref15_Right.j1 kq a0_0 x13_7 a0_0 a0_1 a0_2 a0_3 a0_4 a0_5 a0_6 a0_7 a0_8 a0_9 a0_10 a0_11 a0_12 a0_13 a0_14 a0_15 a0_16 a0_17 a0_18 a0_19 a0_20 a0_21 a0_22 a0_23 a0_24 a0_25 a0_26 a0_27 a0_28 a0_29 a0_30 a0_31 a0_32 a0_33 a0_34 a0_35 a0_36 = some r) ∧ Aside0 (kq ≤ kj1) ∧ Aside0 (wc.heap[gb159]? = some (.cells #[.int .i64 a0_0, .int .i64 a0_1, .int .i64 a0_2, .int .u8 a0_3, .int .u8 a0_4, .int .u8 a0_5, .int .u8 a0_6, .int .u8 a0_7, .int .u8 a0_8, .int .u8 a0_9, .int .u8 a0_10, .int .u8 a0_11, .int .u8 a0_12, .int .u8 a0_13, .int .u8 a0_14, .int .u8 a0_15, .int .u8 a0_16, .int .u8 a0_17, .int .u8 a0_18, .int .u8 a0_19, .string a0_20, .int .u8 a0_21, .int .u8 a0_22, .int .u8 a0_23, .int .u8 a0_24, .int .u8 a0_25, .int .u8 a0_26, .int .u8 a0_27, .int .u8 a0_28, .int .u8 a0_29, .int .u8 a0_30, .int .u8 a0_31, .int .u8 a0_32, .int .u8 a0_33, .int .u8 a0_34, .int .u8 a0_35, .int .u8 a0_36] 24 (0, 0))) ∧ Aside0 (Below w.heap.size w wc))
        case first =>
          have H := HC8.out
          clear HC8
          by_cases c10 : a0_0 = 0
          · rw [if_pos c10] at H
            have c10b0 : (a0_0 == 0) = true := beq_iff_eq.mpr c10
            have c10b1 : (a0_0 != 0) = false := bne_eq_false_iff_eq.mpr c10
            clear c10
            (first | rw [c10b0] | (simp only [i64_w, i32_w]; rw [c10b0]) | skip)
            have H' := Aside0.mk H
            clear H
            go_wp2
            go_meet
            case rel => exact ⟨_, ((a0_0 == 0)), (by first | rfl | (simp; done) | (simp [*]; done)), H', ⟨by have := HJ1.out; first | omega | exact Nat.le_refl _⟩, ⟨by (with_reducible repeat (first | refine qN ?_ _ | refine qD ?_ | refine qA ?_ _)); exact BK159.out⟩, ⟨by repeat (first | (with_reducible first | exact HB.out | apply pA | apply pN | apply pD | refine pS ?_ GE159.out) | exact HB.out)⟩⟩
          · rw [if_neg c10] at H
            have c10b0 : (a0_0 == 0) = false := beq_eq_false_iff_ne.mpr c10
            have c10b1 : (a0_0 != 0) = true := bne_iff_ne.mpr c10
            (first | rw [c10b0] | (simp only [i64_w, i32_w]; rw [c10b0]) | skip)
            by_cases c11 : a0_0 = 2
            · rw [if_pos c11] at H
              have c11b0 : (a0_0 == 2) = true := beq_iff_eq.mpr c11
              have c11b1 : (a0_0 != 2) = false := bne_eq_false_iff_eq.mpr c11
              clear c11
              have H' := Aside0.mk H
              clear H
              go_wp2
              go_meet
              case rel => exact ⟨_, ((a0_0 == 2)), (by first | rfl | (simp; done) | (simp [*]; done)), H', ⟨by have := HJ1.out; first | omega | exact Nat.le_refl _⟩, ⟨by (with_reducible repeat (first | refine qN ?_ _ | refine qD ?_ | refine qA ?_ _)); exact BK159.out⟩, ⟨by repeat (first | (with_reducible first | exact HB.out | apply pA | apply pN | apply pD | refine pS ?_ GE159.out) | exact HB.out)⟩⟩
            · rw [if_neg c11] at H
              have c11b0 : (a0_0 == 2) = false := beq_eq_false_iff_ne.mpr c11
              have c11b1 : (a0_0 != 2) = true := bne_iff_ne.mpr c11
              have H' := Aside0.mk H
              clear H
              go_wp2
              go_meet
              case rel => exact ⟨_, ((a0_0 == 3)), (by first | rfl | (simp; done) | (simp [*]; done)), H', ⟨by have := HJ1.out; first | omega | exact Nat.le_refl _⟩, ⟨by (with_reducible repeat (first | refine qN ?_ _ | refine qD ?_ | refine qA ?_ _)); exact BK159.out⟩, ⟨by repeat (first | (with_reducible first | exact HB.out | apply pA | apply pN | apply pD | refine pS ?_ GE159.out) | exact HB.out)⟩⟩
        case rest =>
          clear HC8
          try clear c1
          try clear p2
          try clear c4
          try clear c4b0
          try clear c7
          try clear c10
          try clear c10b0
          try clear c10b1
          try clear c11
          try clear c11b0
          try clear c11b1
          try clear hcz5_0
          try clear hcz5_1
          try clear hcz5_10
          try clear hcz5_11
          try clear hcz5_12
          try clear hcz5_13
          try clear hcz5_14
          try clear hcz5_15
          try clear hcz5_16
          try clear hcz5_17
          try clear hcz5_18
          try clear hcz5_19
          try clear hcz5_2
          try clear hcz5_20
          try clear hcz5_21
          try clear hcz5_22
          try clear hcz5_23
          try clear hcz5_24
          try clear hcz5_25
          try clear hcz5_26
          try clear hcz5_27
          try clear hcz5_28
          try clear hcz5_29
          try clear hcz5_3
          try clear hcz5_30
          try clear hcz5_31
          try clear hcz5_32
          try clear hcz5_33
          try clear hcz5_34
          try clear hcz5_35
          try clear hcz5_36
          try clear hcz5_4
          try clear hcz5_5
          try clear hcz5_6
          try clear hcz5_7
          try clear hcz5_8
          try clear hcz5_9
          try clear hcz6_0
          try clear hcz6_1
          try clear hcz6_10
          try clear hcz6_11
          try clear hcz6_12
          try clear hcz6_13
          try clear hcz6_14
          try clear hcz6_15
          try clear hcz6_16
          try clear hcz6_17
          try clear hcz6_18
          try clear hcz6_19
          try clear hcz6_2
          try clear hcz6_20
          try clear hcz6_21
          try clear hcz6_22
          try clear hcz6_23
          try clear hcz6_24
          try clear hcz6_25
          try clear hcz6_26
          try clear hcz6_27
          try clear hcz6_28
          try clear hcz6_29
          try clear hcz6_3
          try clear hcz6_30
          try clear hcz6_31
          try clear hcz6_32
          try clear hcz6_33
          try clear hcz6_34
          try clear hcz6_35
          try clear hcz6_36
          try clear hcz6_4
          try clear hcz6_5
          try clear hcz6_6
          try clear hcz6_7
          try clear hcz6_8
          try clear hcz6_9
          try clear hcz9_0
          try clear hcz9_1
          try clear hcz9_10
          try clear hcz9_11
          try clear hcz9_12
          try clear hcz9_13
          try clear hcz9_14
          try clear hcz9_15
          try clear hcz9_16
          try clear hcz9_17
          try clear hcz9_18
          try clear hcz9_19
          try clear hcz9_2
          try clear hcz9_20
          try clear hcz9_21
          try clear hcz9_22
          try clear hcz9_23
          try clear hcz9_24
          try clear hcz9_25
          try clear hcz9_26
          try clear hcz9_27
          try clear hcz9_28
          try clear hcz9_29
          try clear hcz9_3
          try clear hcz9_30
          try clear hcz9_31
          try clear hcz9_32
          try clear hcz9_33
          try clear hcz9_34
          try clear hcz9_35
          try clear hcz9_36
          try clear hcz9_4
          try clear hcz9_5
          try clear hcz9_6
          try clear hcz9_7
          try clear hcz9_8
          try clear hcz9_9
          try clear hfz5_0
          try clear hfz5_1
          try clear hfz5_10
          try clear hfz5_11
          try clear hfz5_12
          try clear hfz5_13
          try clear hfz5_14
          try clear hfz5_15
          try clear hfz5_16
          try clear hfz5_17
          try clear hfz5_18
          try clear hfz5_19
          try clear hfz5_2
          try clear hfz5_20
          try clear hfz5_21
          try clear hfz5_22
          try clear hfz5_23
          try clear hfz5_24
          try clear hfz5_25
          try clear hfz5_26
          try clear hfz5_27
          try clear hfz5_28
          try clear hfz5_29
          try clear hfz5_3
          try clear hfz5_30
          try clear hfz5_31
          try clear hfz5_32
          try clear hfz5_33
          try clear hfz5_34
          try clear hfz5_35
          try clear hfz5_36
          try clear hfz5_4
          try clear hfz5_5
          try clear hfz5_6
          try clear hfz5_7
          try clear hfz5_8
          try clear hfz5_9
          try clear hfz6_0
          try clear hfz6_1
          try clear hfz6_10
          try clear hfz6_11
          try clear hfz6_12
          try clear hfz6_13
          try clear hfz6_14
          try clear hfz6_15
          try clear hfz6_16
          try clear hfz6_17
          try clear hfz6_18
          try clear hfz6_19
          try clear hfz6_2
          try clear hfz6_20
          try clear hfz6_21
          try clear hfz6_22
          try clear hfz6_23
          try clear hfz6_24
          try clear hfz6_25
          try clear hfz6_26
          try clear hfz6_27
          try clear hfz6_28
          try clear hfz6_29
          try clear hfz6_3
          try clear hfz6_30
          try clear hfz6_31
          try clear hfz6_32
          try clear hfz6_33
          try clear hfz6_34
          try clear hfz6_35
          try clear hfz6_36
          try clear hfz6_4
          try clear hfz6_5
          try clear hfz6_6
          try clear hfz6_7
          try clear hfz6_8
          try clear hfz6_9
          try clear hfz9_0
          try clear hfz9_1
          try clear hfz9_10
          try clear hfz9_11
          try clear hfz9_12
          try clear hfz9_13
          try clear hfz9_14
          try clear hfz9_15
          try clear hfz9_16
          try clear hfz9_17
          try clear hfz9_18
          try clear hfz9_19
          try clear hfz9_2
          try clear hfz9_20
          try clear hfz9_21
          try clear hfz9_22
          try clear hfz9_23
          try clear hfz9_24
          try clear hfz9_25
          try clear hfz9_26
          try clear hfz9_27
          try clear hfz9_28
          try clear hfz9_29
          try clear hfz9_3
          try clear hfz9_30
          try clear hfz9_31
          try clear hfz9_32
          try clear hfz9_33
          try clear hfz9_34
          try clear hfz9_35
          try clear hfz9_36
          try clear hfz9_4
          try clear hfz9_5
          try clear hfz9_6
          try clear hfz9_7
          try clear hfz9_8
          try clear hfz9_9
          try clear p2
          obtain ⟨kq, x13_7, rfl, HA, HJ7, BK159, HB⟩ := hcut
          cases kq with
          | zero => exact absurd HA.out (by simp [portreeveref15_Right.j1])
          | succ kj7 =>
            have H := HA.out
            clear HA
            simp only [portreeveref15_Right.j1] at H
            by_cases c12 : x13_7 = true
            · subst c12
              have H1 : (some (a0_2 == 0)) = some r := by rw [if_pos rfl] at H; exact H
              clear H
              have H := H1
              clear H1
              obtain rfl := Option.some.inj H
              have hcz13_0 : wc.cell? ⟨gb159, 0, none⟩ = some (.int .i64 a0_0) := (blk_cell BK159.out 0).trans rfl
              have hcz13_1 : wc.cell? ⟨gb159, 1, none⟩ = some (.int .i64 a0_1) := (blk_cell BK159.out 1).trans rfl
              have hcz13_2 : wc.cell? ⟨gb159, 2, none⟩ = some (.int .i64 a0_2) := (blk_cell BK159.out 2).trans rfl
              have hcz13_3 : wc.cell? ⟨gb159, 3, none⟩ = some (.int .u8 a0_3) := (blk_cell BK159.out 3).trans rfl
              have hcz13_4 : wc.cell? ⟨gb159, 4, none⟩ = some (.int .u8 a0_4) := (blk_cell BK159.out 4).trans rfl
              have hcz13_5 : wc.cell? ⟨gb159, 5, none⟩ = some (.int .u8 a0_5) := (blk_cell BK159.out 5).trans rfl
              have hcz13_6 : wc.cell? ⟨gb159, 6, none⟩ = some (.int .u8 a0_6) := (blk_cell BK159.out 6).trans rfl
              have hcz13_7 : wc.cell? ⟨gb159, 7, none⟩ = some (.int .u8 a0_7) := (blk_cell BK159.out 7).trans rfl
              have hcz13_8 : wc.cell? ⟨gb159, 8, none⟩ = some (.int .u8 a0_8) := (blk_cell BK159.out 8).trans rfl
              have hcz13_9 : wc.cell? ⟨gb159, 9, none⟩ = some (.int .u8 a0_9) := (blk_cell BK159.out 9).trans rfl
              have hcz13_10 : wc.cell? ⟨gb159, 10, none⟩ = some (.int .u8 a0_10) := (blk_cell BK159.out 10).trans rfl
              have hcz13_11 : wc.cell? ⟨gb159, 11, none⟩ = some (.int .u8 a0_11) := (blk_cell BK159.out 11).trans rfl
              have hcz13_12 : wc.cell? ⟨gb159, 12, none⟩ = some (.int .u8 a0_12) := (blk_cell BK159.out 12).trans rfl
              have hcz13_13 : wc.cell? ⟨gb159, 13, none⟩ = some (.int .u8 a0_13) := (blk_cell BK159.out 13).trans rfl
              have hcz13_14 : wc.cell? ⟨gb159, 14, none⟩ = some (.int .u8 a0_14) := (blk_cell BK159.out 14).trans rfl
              have hcz13_15 : wc.cell? ⟨gb159, 15, none⟩ = some (.int .u8 a0_15) := (blk_cell BK159.out 15).trans rfl
              have hcz13_16 : wc.cell? ⟨gb159, 16, none⟩ = some (.int .u8 a0_16) := (blk_cell BK159.out 16).trans rfl
              have hcz13_17 : wc.cell? ⟨gb159, 17, none⟩ = some (.int .u8 a0_17) := (blk_cell BK159.out 17).trans rfl
              have hcz13_18 : wc.cell? ⟨gb159, 18, none⟩ = some (.int .u8 a0_18) := (blk_cell BK159.out 18).trans rfl
              have hcz13_19 : wc.cell? ⟨gb159, 19, none⟩ = some (.int .u8 a0_19) := (blk_cell BK159.out 19).trans rfl
              have hcz13_20 : wc.cell? ⟨gb159, 20, none⟩ = some (.string a0_20) := (blk_cell BK159.out 20).trans rfl
              have hcz13_21 : wc.cell? ⟨gb159, 21, none⟩ = some (.int .u8 a0_21) := (blk_cell BK159.out 21).trans rfl
              have hcz13_22 : wc.cell? ⟨gb159, 22, none⟩ = some (.int .u8 a0_22) := (blk_cell BK159.out 22).trans rfl
              have hcz13_23 : wc.cell? ⟨gb159, 23, none⟩ = some (.int .u8 a0_23) := (blk_cell BK159.out 23).trans rfl
              have hcz13_24 : wc.cell? ⟨gb159, 24, none⟩ = some (.int .u8 a0_24) := (blk_cell BK159.out 24).trans rfl
              have hcz13_25 : wc.cell? ⟨gb159, 25, none⟩ = some (.int .u8 a0_25) := (blk_cell BK159.out 25).trans rfl
              have hcz13_26 : wc.cell? ⟨gb159, 26, none⟩ = some (.int .u8 a0_26) := (blk_cell BK159.out 26).trans rfl
              have hcz13_27 : wc.cell? ⟨gb159, 27, none⟩ = some (.int .u8 a0_27) := (blk_cell BK159.out 27).trans rfl
              have hcz13_28 : wc.cell? ⟨gb159, 28, none⟩ = some (.int .u8 a0_28) := (blk_cell BK159.out 28).trans rfl
              have hcz13_29 : wc.cell? ⟨gb159, 29, none⟩ = some (.int .u8 a0_29) := (blk_cell BK159.out 29).trans rfl
              have hcz13_30 : wc.cell? ⟨gb159, 30, none⟩ = some (.int .u8 a0_30) := (blk_cell BK159.out 30).trans rfl
              have hcz13_31 : wc.cell? ⟨gb159, 31, none⟩ = some (.int .u8 a0_31) := (blk_cell BK159.out 31).trans rfl
              have hcz13_32 : wc.cell? ⟨gb159, 32, none⟩ = some (.int .u8 a0_32) := (blk_cell BK159.out 32).trans rfl
              have hcz13_33 : wc.cell? ⟨gb159, 33, none⟩ = some (.int .u8 a0_33) := (blk_cell BK159.out 33).trans rfl
              have hcz13_34 : wc.cell? ⟨gb159, 34, none⟩ = some (.int .u8 a0_34) := (blk_cell BK159.out 34).trans rfl
              have hcz13_35 : wc.cell? ⟨gb159, 35, none⟩ = some (.int .u8 a0_35) := (blk_cell BK159.out 35).trans rfl
              have hcz13_36 : wc.cell? ⟨gb159, 36, none⟩ = some (.int .u8 a0_36) := (blk_cell BK159.out 36).trans rfl
              have hfz13_0 := blk_frozen BK159.out 0
              have hfz13_1 := blk_frozen BK159.out 1
              have hfz13_2 := blk_frozen BK159.out 2
              have hfz13_3 := blk_frozen BK159.out 3
              have hfz13_4 := blk_frozen BK159.out 4
              have hfz13_5 := blk_frozen BK159.out 5
              have hfz13_6 := blk_frozen BK159.out 6
              have hfz13_7 := blk_frozen BK159.out 7
              have hfz13_8 := blk_frozen BK159.out 8
              have hfz13_9 := blk_frozen BK159.out 9
              have hfz13_10 := blk_frozen BK159.out 10
              have hfz13_11 := blk_frozen BK159.out 11
              have hfz13_12 := blk_frozen BK159.out 12
              have hfz13_13 := blk_frozen BK159.out 13
              have hfz13_14 := blk_frozen BK159.out 14
              have hfz13_15 := blk_frozen BK159.out 15
              have hfz13_16 := blk_frozen BK159.out 16
              have hfz13_17 := blk_frozen BK159.out 17
              have hfz13_18 := blk_frozen BK159.out 18
              have hfz13_19 := blk_frozen BK159.out 19
              have hfz13_20 := blk_frozen BK159.out 20
              have hfz13_21 := blk_frozen BK159.out 21
              have hfz13_22 := blk_frozen BK159.out 22
              have hfz13_23 := blk_frozen BK159.out 23
              have hfz13_24 := blk_frozen BK159.out 24
              have hfz13_25 := blk_frozen BK159.out 25
              have hfz13_26 := blk_frozen BK159.out 26
              have hfz13_27 := blk_frozen BK159.out 27
              have hfz13_28 := blk_frozen BK159.out 28
              have hfz13_29 := blk_frozen BK159.out 29
              have hfz13_30 := blk_frozen BK159.out 30
              have hfz13_31 := blk_frozen BK159.out 31
              have hfz13_32 := blk_frozen BK159.out 32
              have hfz13_33 := blk_frozen BK159.out 33
              have hfz13_34 := blk_frozen BK159.out 34
              have hfz13_35 := blk_frozen BK159.out 35
              have hfz13_36 := blk_frozen BK159.out 36
              go_wp2
              go_ret
              exact ⟨by first | rfl | (simp [errW_none, errW_some] <;> rfl) | (simp [*, errW_none, errW_some] <;> rfl), by repeat (first | (with_reducible first | exact HB.out | apply pA | apply pN | apply pD | refine pS ?_ GE159.out) | exact HB.out)⟩
            · replace c12 := Bool.eq_false_iff.mpr c12
              subst c12
              have H1 : (if a0_0 = 1 then (if a0_2 ≥ 1 then (if a0_2 ≤ 4 then (some (decide (a0_1 ≥ 1))) else (some false)) else (some false)) else (some false)) = some r := by rw [if_neg (show ¬ (false = true) by decide)] at H; exact H
              clear H
              have H := H1
              clear H1
              by_cases c14 : a0_0 = 1
              · rw [if_pos c14] at H
                have c14b0 : (a0_0 == 1) = true := beq_iff_eq.mpr c14
                have c14b1 : (a0_0 != 1) = false := bne_eq_false_iff_eq.mpr c14
                clear c14
                by_cases c15 : a0_2 ≥ 1
                · rw [if_pos c15] at H
                  have c15b0 : decide (1 ≤ a0_2) = true := decide_eq_true c15
                  clear c15
                  by_cases c16 : a0_2 ≤ 4
                  · rw [if_pos c16] at H
                    have c16b0 : decide (a0_2 ≤ 4) = true := decide_eq_true c16
                    clear c16
                    obtain rfl := Option.some.inj H
                    have hcz17_0 : wc.cell? ⟨gb159, 0, none⟩ = some (.int .i64 a0_0) := (blk_cell BK159.out 0).trans rfl
                    have hcz17_1 : wc.cell? ⟨gb159, 1, none⟩ = some (.int .i64 a0_1) := (blk_cell BK159.out 1).trans rfl
                    have hcz17_2 : wc.cell? ⟨gb159, 2, none⟩ = some (.int .i64 a0_2) := (blk_cell BK159.out 2).trans rfl
                    have hcz17_3 : wc.cell? ⟨gb159, 3, none⟩ = some (.int .u8 a0_3) := (blk_cell BK159.out 3).trans rfl
                    have hcz17_4 : wc.cell? ⟨gb159, 4, none⟩ = some (.int .u8 a0_4) := (blk_cell BK159.out 4).trans rfl
                    have hcz17_5 : wc.cell? ⟨gb159, 5, none⟩ = some (.int .u8 a0_5) := (blk_cell BK159.out 5).trans rfl
                    have hcz17_6 : wc.cell? ⟨gb159, 6, none⟩ = some (.int .u8 a0_6) := (blk_cell BK159.out 6).trans rfl
                    have hcz17_7 : wc.cell? ⟨gb159, 7, none⟩ = some (.int .u8 a0_7) := (blk_cell BK159.out 7).trans rfl
                    have hcz17_8 : wc.cell? ⟨gb159, 8, none⟩ = some (.int .u8 a0_8) := (blk_cell BK159.out 8).trans rfl
                    have hcz17_9 : wc.cell? ⟨gb159, 9, none⟩ = some (.int .u8 a0_9) := (blk_cell BK159.out 9).trans rfl
                    have hcz17_10 : wc.cell? ⟨gb159, 10, none⟩ = some (.int .u8 a0_10) := (blk_cell BK159.out 10).trans rfl
                    have hcz17_11 : wc.cell? ⟨gb159, 11, none⟩ = some (.int .u8 a0_11) := (blk_cell BK159.out 11).trans rfl
                    have hcz17_12 : wc.cell? ⟨gb159, 12, none⟩ = some (.int .u8 a0_12) := (blk_cell BK159.out 12).trans rfl
                    have hcz17_13 : wc.cell? ⟨gb159, 13, none⟩ = some (.int .u8 a0_13) := (blk_cell BK159.out 13).trans rfl
                    have hcz17_14 : wc.cell? ⟨gb159, 14, none⟩ = some (.int .u8 a0_14) := (blk_cell BK159.out 14).trans rfl
                    have hcz17_15 : wc.cell? ⟨gb159, 15, none⟩ = some (.int .u8 a0_15) := (blk_cell BK159.out 15).trans rfl
                    have hcz17_16 : wc.cell? ⟨gb159, 16, none⟩ = some (.int .u8 a0_16) := (blk_cell BK159.out 16).trans rfl
                    have hcz17_17 : wc.cell? ⟨gb159, 17, none⟩ = some (.int .u8 a0_17) := (blk_cell BK159.out 17).trans rfl
                    have hcz17_18 : wc.cell? ⟨gb159, 18, none⟩ = some (.int .u8 a0_18) := (blk_cell BK159.out 18).trans rfl
                    have hcz17_19 : wc.cell? ⟨gb159, 19, none⟩ = some (.int .u8 a0_19) := (blk_cell BK159.out 19).trans rfl
                    have hcz17_20 : wc.cell? ⟨gb159, 20, none⟩ = some (.string a0_20) := (blk_cell BK159.out 20).trans rfl
                    have hcz17_21 : wc.cell? ⟨gb159, 21, none⟩ = some (.int .u8 a0_21) := (blk_cell BK159.out 21).trans rfl
                    have hcz17_22 : wc.cell? ⟨gb159, 22, none⟩ = some (.int .u8 a0_22) := (blk_cell BK159.out 22).trans rfl
                    have hcz17_23 : wc.cell? ⟨gb159, 23, none⟩ = some (.int .u8 a0_23) := (blk_cell BK159.out 23).trans rfl
                    have hcz17_24 : wc.cell? ⟨gb159, 24, none⟩ = some (.int .u8 a0_24) := (blk_cell BK159.out 24).trans rfl
                    have hcz17_25 : wc.cell? ⟨gb159, 25, none⟩ = some (.int .u8 a0_25) := (blk_cell BK159.out 25).trans rfl
                    have hcz17_26 : wc.cell? ⟨gb159, 26, none⟩ = some (.int .u8 a0_26) := (blk_cell BK159.out 26).trans rfl
                    have hcz17_27 : wc.cell? ⟨gb159, 27, none⟩ = some (.int .u8 a0_27) := (blk_cell BK159.out 27).trans rfl
                    have hcz17_28 : wc.cell? ⟨gb159, 28, none⟩ = some (.int .u8 a0_28) := (blk_cell BK159.out 28).trans rfl
                    have hcz17_29 : wc.cell? ⟨gb159, 29, none⟩ = some (.int .u8 a0_29) := (blk_cell BK159.out 29).trans rfl
                    have hcz17_30 : wc.cell? ⟨gb159, 30, none⟩ = some (.int .u8 a0_30) := (blk_cell BK159.out 30).trans rfl
                    have hcz17_31 : wc.cell? ⟨gb159, 31, none⟩ = some (.int .u8 a0_31) := (blk_cell BK159.out 31).trans rfl
                    have hcz17_32 : wc.cell? ⟨gb159, 32, none⟩ = some (.int .u8 a0_32) := (blk_cell BK159.out 32).trans rfl
                    have hcz17_33 : wc.cell? ⟨gb159, 33, none⟩ = some (.int .u8 a0_33) := (blk_cell BK159.out 33).trans rfl
                    have hcz17_34 : wc.cell? ⟨gb159, 34, none⟩ = some (.int .u8 a0_34) := (blk_cell BK159.out 34).trans rfl
                    have hcz17_35 : wc.cell? ⟨gb159, 35, none⟩ = some (.int .u8 a0_35) := (blk_cell BK159.out 35).trans rfl
                    have hcz17_36 : wc.cell? ⟨gb159, 36, none⟩ = some (.int .u8 a0_36) := (blk_cell BK159.out 36).trans rfl
                    have hfz17_0 := blk_frozen BK159.out 0
                    have hfz17_1 := blk_frozen BK159.out 1
                    have hfz17_2 := blk_frozen BK159.out 2
                    have hfz17_3 := blk_frozen BK159.out 3
                    have hfz17_4 := blk_frozen BK159.out 4
                    have hfz17_5 := blk_frozen BK159.out 5
                    have hfz17_6 := blk_frozen BK159.out 6
                    have hfz17_7 := blk_frozen BK159.out 7
                    have hfz17_8 := blk_frozen BK159.out 8
                    have hfz17_9 := blk_frozen BK159.out 9
                    have hfz17_10 := blk_frozen BK159.out 10
                    have hfz17_11 := blk_frozen BK159.out 11
                    have hfz17_12 := blk_frozen BK159.out 12
                    have hfz17_13 := blk_frozen BK159.out 13
                    have hfz17_14 := blk_frozen BK159.out 14
                    have hfz17_15 := blk_frozen BK159.out 15
                    have hfz17_16 := blk_frozen BK159.out 16
                    have hfz17_17 := blk_frozen BK159.out 17
                    have hfz17_18 := blk_frozen BK159.out 18
                    have hfz17_19 := blk_frozen BK159.out 19
                    have hfz17_20 := blk_frozen BK159.out 20
                    have hfz17_21 := blk_frozen BK159.out 21
                    have hfz17_22 := blk_frozen BK159.out 22
                    have hfz17_23 := blk_frozen BK159.out 23
                    have hfz17_24 := blk_frozen BK159.out 24
                    have hfz17_25 := blk_frozen BK159.out 25
                    have hfz17_26 := blk_frozen BK159.out 26
                    have hfz17_27 := blk_frozen BK159.out 27
                    have hfz17_28 := blk_frozen BK159.out 28
                    have hfz17_29 := blk_frozen BK159.out 29
                    have hfz17_30 := blk_frozen BK159.out 30
                    have hfz17_31 := blk_frozen BK159.out 31
                    have hfz17_32 := blk_frozen BK159.out 32
                    have hfz17_33 := blk_frozen BK159.out 33
                    have hfz17_34 := blk_frozen BK159.out 34
                    have hfz17_35 := blk_frozen BK159.out 35
                    have hfz17_36 := blk_frozen BK159.out 36
                    go_wp2
                    go_ret
                    exact ⟨by first | rfl | (simp [errW_none, errW_some] <;> rfl) | (simp [*, errW_none, errW_some] <;> rfl), by repeat (first | (with_reducible first | exact HB.out | apply pA | apply pN | apply pD | refine pS ?_ GE159.out) | exact HB.out)⟩
                  · rw [if_neg c16] at H
                    have c16b0 : decide (a0_2 ≤ 4) = false := decide_eq_false c16
                    clear c16
                    obtain rfl := Option.some.inj H
                    have hcz18_0 : wc.cell? ⟨gb159, 0, none⟩ = some (.int .i64 a0_0) := (blk_cell BK159.out 0).trans rfl
                    have hcz18_1 : wc.cell? ⟨gb159, 1, none⟩ = some (.int .i64 a0_1) := (blk_cell BK159.out 1).trans rfl
                    have hcz18_2 : wc.cell? ⟨gb159, 2, none⟩ = some (.int .i64 a0_2) := (blk_cell BK159.out 2).trans rfl
                    have hcz18_3 : wc.cell? ⟨gb159, 3, none⟩ = some (.int .u8 a0_3) := (blk_cell BK159.out 3).trans rfl
                    have hcz18_4 : wc.cell? ⟨gb159, 4, none⟩ = some (.int .u8 a0_4) := (blk_cell BK159.out 4).trans rfl
                    have hcz18_5 : wc.cell? ⟨gb159, 5, none⟩ = some (.int .u8 a0_5) := (blk_cell BK159.out 5).trans rfl
                    have hcz18_6 : wc.cell? ⟨gb159, 6, none⟩ = some (.int .u8 a0_6) := (blk_cell BK159.out 6).trans rfl
                    have hcz18_7 : wc.cell? ⟨gb159, 7, none⟩ = some (.int .u8 a0_7) := (blk_cell BK159.out 7).trans rfl
                    have hcz18_8 : wc.cell? ⟨gb159, 8, none⟩ = some (.int .u8 a0_8) := (blk_cell BK159.out 8).trans rfl
                    have hcz18_9 : wc.cell? ⟨gb159, 9, none⟩ = some (.int .u8 a0_9) := (blk_cell BK159.out 9).trans rfl
                    have hcz18_10 : wc.cell? ⟨gb159, 10, none⟩ = some (.int .u8 a0_10) := (blk_cell BK159.out 10).trans rfl
                    have hcz18_11 : wc.cell? ⟨gb159, 11, none⟩ = some (.int .u8 a0_11) := (blk_cell BK159.out 11).trans rfl
                    have hcz18_12 : wc.cell? ⟨gb159, 12, none⟩ = some (.int .u8 a0_12) := (blk_cell BK159.out 12).trans rfl
                    have hcz18_13 : wc.cell? ⟨gb159, 13, none⟩ = some (.int .u8 a0_13) := (blk_cell BK159.out 13).trans rfl
                    have hcz18_14 : wc.cell? ⟨gb159, 14, none⟩ = some (.int .u8 a0_14) := (blk_cell BK159.out 14).trans rfl
                    have hcz18_15 : wc.cell? ⟨gb159, 15, none⟩ = some (.int .u8 a0_15) := (blk_cell BK159.out 15).trans rfl
                    have hcz18_16 : wc.cell? ⟨gb159, 16, none⟩ = some (.int .u8 a0_16) := (blk_cell BK159.out 16).trans rfl
                    have hcz18_17 : wc.cell? ⟨gb159, 17, none⟩ = some (.int .u8 a0_17) := (blk_cell BK159.out 17).trans rfl
                    have hcz18_18 : wc.cell? ⟨gb159, 18, none⟩ = some (.int .u8 a0_18) := (blk_cell BK159.out 18).trans rfl
                    have hcz18_19 : wc.cell? ⟨gb159, 19, none⟩ = some (.int .u8 a0_19) := (blk_cell BK159.out 19).trans rfl
                    have hcz18_20 : wc.cell? ⟨gb159, 20, none⟩ = some (.string a0_20) := (blk_cell BK159.out 20).trans rfl
                    have hcz18_21 : wc.cell? ⟨gb159, 21, none⟩ = some (.int .u8 a0_21) := (blk_cell BK159.out 21).trans rfl
                    have hcz18_22 : wc.cell? ⟨gb159, 22, none⟩ = some (.int .u8 a0_22) := (blk_cell BK159.out 22).trans rfl
                    have hcz18_23 : wc.cell? ⟨gb159, 23, none⟩ = some (.int .u8 a0_23) := (blk_cell BK159.out 23).trans rfl
                    have hcz18_24 : wc.cell? ⟨gb159, 24, none⟩ = some (.int .u8 a0_24) := (blk_cell BK159.out 24).trans rfl
                    have hcz18_25 : wc.cell? ⟨gb159, 25, none⟩ = some (.int .u8 a0_25) := (blk_cell BK159.out 25).trans rfl
                    have hcz18_26 : wc.cell? ⟨gb159, 26, none⟩ = some (.int .u8 a0_26) := (blk_cell BK159.out 26).trans rfl
                    have hcz18_27 : wc.cell? ⟨gb159, 27, none⟩ = some (.int .u8 a0_27) := (blk_cell BK159.out 27).trans rfl
                    have hcz18_28 : wc.cell? ⟨gb159, 28, none⟩ = some (.int .u8 a0_28) := (blk_cell BK159.out 28).trans rfl
                    have hcz18_29 : wc.cell? ⟨gb159, 29, none⟩ = some (.int .u8 a0_29) := (blk_cell BK159.out 29).trans rfl
                    have hcz18_30 : wc.cell? ⟨gb159, 30, none⟩ = some (.int .u8 a0_30) := (blk_cell BK159.out 30).trans rfl
                    have hcz18_31 : wc.cell? ⟨gb159, 31, none⟩ = some (.int .u8 a0_31) := (blk_cell BK159.out 31).trans rfl
                    have hcz18_32 : wc.cell? ⟨gb159, 32, none⟩ = some (.int .u8 a0_32) := (blk_cell BK159.out 32).trans rfl
                    have hcz18_33 : wc.cell? ⟨gb159, 33, none⟩ = some (.int .u8 a0_33) := (blk_cell BK159.out 33).trans rfl
                    have hcz18_34 : wc.cell? ⟨gb159, 34, none⟩ = some (.int .u8 a0_34) := (blk_cell BK159.out 34).trans rfl
                    have hcz18_35 : wc.cell? ⟨gb159, 35, none⟩ = some (.int .u8 a0_35) := (blk_cell BK159.out 35).trans rfl
                    have hcz18_36 : wc.cell? ⟨gb159, 36, none⟩ = some (.int .u8 a0_36) := (blk_cell BK159.out 36).trans rfl
                    have hfz18_0 := blk_frozen BK159.out 0
                    have hfz18_1 := blk_frozen BK159.out 1
                    have hfz18_2 := blk_frozen BK159.out 2
                    have hfz18_3 := blk_frozen BK159.out 3
                    have hfz18_4 := blk_frozen BK159.out 4
                    have hfz18_5 := blk_frozen BK159.out 5
                    have hfz18_6 := blk_frozen BK159.out 6
                    have hfz18_7 := blk_frozen BK159.out 7
                    have hfz18_8 := blk_frozen BK159.out 8
                    have hfz18_9 := blk_frozen BK159.out 9
                    have hfz18_10 := blk_frozen BK159.out 10
                    have hfz18_11 := blk_frozen BK159.out 11
                    have hfz18_12 := blk_frozen BK159.out 12
                    have hfz18_13 := blk_frozen BK159.out 13
                    have hfz18_14 := blk_frozen BK159.out 14
                    have hfz18_15 := blk_frozen BK159.out 15
                    have hfz18_16 := blk_frozen BK159.out 16
                    have hfz18_17 := blk_frozen BK159.out 17
                    have hfz18_18 := blk_frozen BK159.out 18
                    have hfz18_19 := blk_frozen BK159.out 19
                    have hfz18_20 := blk_frozen BK159.out 20
                    have hfz18_21 := blk_frozen BK159.out 21
                    have hfz18_22 := blk_frozen BK159.out 22
                    have hfz18_23 := blk_frozen BK159.out 23
                    have hfz18_24 := blk_frozen BK159.out 24
                    have hfz18_25 := blk_frozen BK159.out 25
                    have hfz18_26 := blk_frozen BK159.out 26
                    have hfz18_27 := blk_frozen BK159.out 27
                    have hfz18_28 := blk_frozen BK159.out 28
                    have hfz18_29 := blk_frozen BK159.out 29
                    have hfz18_30 := blk_frozen BK159.out 30
                    have hfz18_31 := blk_frozen BK159.out 31
                    have hfz18_32 := blk_frozen BK159.out 32
                    have hfz18_33 := blk_frozen BK159.out 33
                    have hfz18_34 := blk_frozen BK159.out 34
                    have hfz18_35 := blk_frozen BK159.out 35
                    have hfz18_36 := blk_frozen BK159.out 36
                    go_wp2
                    go_ret
                    exact ⟨by first | rfl | (simp [errW_none, errW_some] <;> rfl) | (simp [*, errW_none, errW_some] <;> rfl), by repeat (first | (with_reducible first | exact HB.out | apply pA | apply pN | apply pD | refine pS ?_ GE159.out) | exact HB.out)⟩
                · rw [if_neg c15] at H
                  have c15b0 : decide (1 ≤ a0_2) = false := decide_eq_false c15
                  clear c15
                  obtain rfl := Option.some.inj H
                  have hcz19_0 : wc.cell? ⟨gb159, 0, none⟩ = some (.int .i64 a0_0) := (blk_cell BK159.out 0).trans rfl
                  have hcz19_1 : wc.cell? ⟨gb159, 1, none⟩ = some (.int .i64 a0_1) := (blk_cell BK159.out 1).trans rfl
                  have hcz19_2 : wc.cell? ⟨gb159, 2, none⟩ = some (.int .i64 a0_2) := (blk_cell BK159.out 2).trans rfl
                  have hcz19_3 : wc.cell? ⟨gb159, 3, none⟩ = some (.int .u8 a0_3) := (blk_cell BK159.out 3).trans rfl
                  have hcz19_4 : wc.cell? ⟨gb159, 4, none⟩ = some (.int .u8 a0_4) := (blk_cell BK159.out 4).trans rfl
                  have hcz19_5 : wc.cell? ⟨gb159, 5, none⟩ = some (.int .u8 a0_5) := (blk_cell BK159.out 5).trans rfl
                  have hcz19_6 : wc.cell? ⟨gb159, 6, none⟩ = some (.int .u8 a0_6) := (blk_cell BK159.out 6).trans rfl
                  have hcz19_7 : wc.cell? ⟨gb159, 7, none⟩ = some (.int .u8 a0_7) := (blk_cell BK159.out 7).trans rfl
                  have hcz19_8 : wc.cell? ⟨gb159, 8, none⟩ = some (.int .u8 a0_8) := (blk_cell BK159.out 8).trans rfl
                  have hcz19_9 : wc.cell? ⟨gb159, 9, none⟩ = some (.int .u8 a0_9) := (blk_cell BK159.out 9).trans rfl
                  have hcz19_10 : wc.cell? ⟨gb159, 10, none⟩ = some (.int .u8 a0_10) := (blk_cell BK159.out 10).trans rfl
                  have hcz19_11 : wc.cell? ⟨gb159, 11, none⟩ = some (.int .u8 a0_11) := (blk_cell BK159.out 11).trans rfl
                  have hcz19_12 : wc.cell? ⟨gb159, 12, none⟩ = some (.int .u8 a0_12) := (blk_cell BK159.out 12).trans rfl
                  have hcz19_13 : wc.cell? ⟨gb159, 13, none⟩ = some (.int .u8 a0_13) := (blk_cell BK159.out 13).trans rfl
                  have hcz19_14 : wc.cell? ⟨gb159, 14, none⟩ = some (.int .u8 a0_14) := (blk_cell BK159.out 14).trans rfl
                  have hcz19_15 : wc.cell? ⟨gb159, 15, none⟩ = some (.int .u8 a0_15) := (blk_cell BK159.out 15).trans rfl
                  have hcz19_16 : wc.cell? ⟨gb159, 16, none⟩ = some (.int .u8 a0_16) := (blk_cell BK159.out 16).trans rfl
                  have hcz19_17 : wc.cell? ⟨gb159, 17, none⟩ = some (.int .u8 a0_17) := (blk_cell BK159.out 17).trans rfl
                  have hcz19_18 : wc.cell? ⟨gb159, 18, none⟩ = some (.int .u8 a0_18) := (blk_cell BK159.out 18).trans rfl
                  have hcz19_19 : wc.cell? ⟨gb159, 19, none⟩ = some (.int .u8 a0_19) := (blk_cell BK159.out 19).trans rfl
                  have hcz19_20 : wc.cell? ⟨gb159, 20, none⟩ = some (.string a0_20) := (blk_cell BK159.out 20).trans rfl
                  have hcz19_21 : wc.cell? ⟨gb159, 21, none⟩ = some (.int .u8 a0_21) := (blk_cell BK159.out 21).trans rfl
                  have hcz19_22 : wc.cell? ⟨gb159, 22, none⟩ = some (.int .u8 a0_22) := (blk_cell BK159.out 22).trans rfl
                  have hcz19_23 : wc.cell? ⟨gb159, 23, none⟩ = some (.int .u8 a0_23) := (blk_cell BK159.out 23).trans rfl
                  have hcz19_24 : wc.cell? ⟨gb159, 24, none⟩ = some (.int .u8 a0_24) := (blk_cell BK159.out 24).trans rfl
                  have hcz19_25 : wc.cell? ⟨gb159, 25, none⟩ = some (.int .u8 a0_25) := (blk_cell BK159.out 25).trans rfl
                  have hcz19_26 : wc.cell? ⟨gb159, 26, none⟩ = some (.int .u8 a0_26) := (blk_cell BK159.out 26).trans rfl
                  have hcz19_27 : wc.cell? ⟨gb159, 27, none⟩ = some (.int .u8 a0_27) := (blk_cell BK159.out 27).trans rfl
                  have hcz19_28 : wc.cell? ⟨gb159, 28, none⟩ = some (.int .u8 a0_28) := (blk_cell BK159.out 28).trans rfl
                  have hcz19_29 : wc.cell? ⟨gb159, 29, none⟩ = some (.int .u8 a0_29) := (blk_cell BK159.out 29).trans rfl
                  have hcz19_30 : wc.cell? ⟨gb159, 30, none⟩ = some (.int .u8 a0_30) := (blk_cell BK159.out 30).trans rfl
                  have hcz19_31 : wc.cell? ⟨gb159, 31, none⟩ = some (.int .u8 a0_31) := (blk_cell BK159.out 31).trans rfl
                  have hcz19_32 : wc.cell? ⟨gb159, 32, none⟩ = some (.int .u8 a0_32) := (blk_cell BK159.out 32).trans rfl
                  have hcz19_33 : wc.cell? ⟨gb159, 33, none⟩ = some (.int .u8 a0_33) := (blk_cell BK159.out 33).trans rfl
                  have hcz19_34 : wc.cell? ⟨gb159, 34, none⟩ = some (.int .u8 a0_34) := (blk_cell BK159.out 34).trans rfl
                  have hcz19_35 : wc.cell? ⟨gb159, 35, none⟩ = some (.int .u8 a0_35) := (blk_cell BK159.out 35).trans rfl
                  have hcz19_36 : wc.cell? ⟨gb159, 36, none⟩ = some (.int .u8 a0_36) := (blk_cell BK159.out 36).trans rfl
                  have hfz19_0 := blk_frozen BK159.out 0
                  have hfz19_1 := blk_frozen BK159.out 1
                  have hfz19_2 := blk_frozen BK159.out 2
                  have hfz19_3 := blk_frozen BK159.out 3
                  have hfz19_4 := blk_frozen BK159.out 4
                  have hfz19_5 := blk_frozen BK159.out 5
                  have hfz19_6 := blk_frozen BK159.out 6
                  have hfz19_7 := blk_frozen BK159.out 7
                  have hfz19_8 := blk_frozen BK159.out 8
                  have hfz19_9 := blk_frozen BK159.out 9
                  have hfz19_10 := blk_frozen BK159.out 10
                  have hfz19_11 := blk_frozen BK159.out 11
                  have hfz19_12 := blk_frozen BK159.out 12
                  have hfz19_13 := blk_frozen BK159.out 13
                  have hfz19_14 := blk_frozen BK159.out 14
                  have hfz19_15 := blk_frozen BK159.out 15
                  have hfz19_16 := blk_frozen BK159.out 16
                  have hfz19_17 := blk_frozen BK159.out 17
                  have hfz19_18 := blk_frozen BK159.out 18
                  have hfz19_19 := blk_frozen BK159.out 19
                  have hfz19_20 := blk_frozen BK159.out 20
                  have hfz19_21 := blk_frozen BK159.out 21
                  have hfz19_22 := blk_frozen BK159.out 22
                  have hfz19_23 := blk_frozen BK159.out 23
                  have hfz19_24 := blk_frozen BK159.out 24
                  have hfz19_25 := blk_frozen BK159.out 25
                  have hfz19_26 := blk_frozen BK159.out 26
                  have hfz19_27 := blk_frozen BK159.out 27
                  have hfz19_28 := blk_frozen BK159.out 28
                  have hfz19_29 := blk_frozen BK159.out 29
                  have hfz19_30 := blk_frozen BK159.out 30
                  have hfz19_31 := blk_frozen BK159.out 31
                  have hfz19_32 := blk_frozen BK159.out 32
                  have hfz19_33 := blk_frozen BK159.out 33
                  have hfz19_34 := blk_frozen BK159.out 34
                  have hfz19_35 := blk_frozen BK159.out 35
                  have hfz19_36 := blk_frozen BK159.out 36
                  go_wp2
                  go_ret
                  exact ⟨by first | rfl | (simp [errW_none, errW_some] <;> rfl) | (simp [*, errW_none, errW_some] <;> rfl), by repeat (first | (with_reducible first | exact HB.out | apply pA | apply pN | apply pD | refine pS ?_ GE159.out) | exact HB.out)⟩
              · rw [if_neg c14] at H
                have c14b0 : (a0_0 == 1) = false := beq_eq_false_iff_ne.mpr c14
                have c14b1 : (a0_0 != 1) = true := bne_iff_ne.mpr c14
                obtain rfl := Option.some.inj H
                go_wp2
                go_ret
                exact ⟨by first | rfl | (simp [errW_none, errW_some] <;> rfl) | (simp [*, errW_none, errW_some] <;> rfl), by repeat (first | (with_reducible first | exact HB.out | apply pA | apply pN | apply pD | refine pS ?_ GE159.out) | exact HB.out)⟩

end Go.Proofs.Ytpbkdphilcodmaa.Q

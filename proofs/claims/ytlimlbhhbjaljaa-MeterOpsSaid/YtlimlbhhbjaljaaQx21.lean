-- written by this session's own program (wip/tools/myprint.py), over the kit's print
import Derived.Test.YtlimlbhhbjaljaaQx0
import Derived.Test.YtlimlbhhbjaljaaQx12
import Derived.Test.YtlimlbhhbjaljaaQx19
namespace Go.Proofs.Ytlimlbhhbjaljaa.Q
open Go.RowKit Go.Proofs.YtlimlbhhbjaljaaW.PrintWords Go.Proofs.YtlimlbhhbjaljaaW.PrintLast Go.Proofs.YtlimlbhhbjaljaaW.PrintMore
open Go.Proofs.YtlimlbhhbjaljaaV
attribute [local go_sem] max2_int min2_int max_two min_two max_three min_three max_four min_four   -- for this text's walks alone
set_option linter.unusedVariables false
set_option linter.unusedSimpArgs false

/-! ### portreeveref04_counted: function 34 -/
def portreeveref04_counted.j0 : Nat → Int → Bool → Int → List (S51) → List (S56) → List (S68) → Int → Int → Int → Int → ByteArray → Int → Int → Int → Int → Option (Int × (List (S51)) × (List (S56)) × (List (S68)) × Int)
 | 0, _, _, _, _, _, _, _, _, _, _, _, _, _, _, _ => none
 | k + 1, x6, x36, x321000, x321001, x321002, x321003, x322000, x322001, x322002, x322003, x322004, x322005, x322006, x322007, x322008 => if x36 = true then (some (x321000, x321001, x321002, x321003, 7)) else (if x322000 = 3 then ((portreeveref04_With.f x321000 x321001 x321002 x321003 3 x322001 x322005 x322006 x322007).bind fun bt326 => ((some (([] : List (S51)) : List (S51))).bind fun y337 => (if 0 ≤ x6 then (if x6 ≤ (x321001.length : Int) then ((some (x321001.take (x6 : Int).toNat : List (S51))).bind fun y340 => (if y337.length + y340.length < 2513169434916 then ((some (y337 ++ y340 : List (S51))).bind fun y345 => (if 0 ≤ (wrap64 (x6 + 1)) then (if (wrap64 (x6 + 1)) ≤ (x321001.length : Int) then ((some (x321001.drop ((wrap64 (x6 + 1)) : Int).toNat : List (S51))).bind fun y348 => (if y345.length + y348.length < 2513169434916 then (some (bt326.1, (y345 ++ y348), bt326.2.2.1, bt326.2.2.2, 0)) else (none))) else (none)) else (none))) else (none))) else (none)) else (none)))) else (if (wrap64 ((wrap64 ((x321002.length : Int) + (x321001.length : Int))) + 1)) > 60 then (some (x321000, x321001, x321002, x321003, 4)) else ((portreeveref04_With.f x321000 x321001 x321002 x321003 2 x322001 x322005 x322006 0).bind fun bt356 => ((some (([] : List (S51)) : List (S51))).bind fun y367 => (if y367.length + x321001.length < 2513169434916 then ((some (y367 ++ x321001 : List (S51))).bind fun y370 => (if 0 ≤ x6 then (if x6 < (y370.length : Int) then (some (bt356.1, (y370.set (x6 : Int).toNat (⟨(rd_T51 y370 x6).f0, (rd_T51 y370 x6).f1, (rd_T51 y370 x6).f2, (rd_T51 y370 x6).f3, x322005, x322006⟩ : S51)), bt356.2.2.1, bt356.2.2.2, 0)) else (none)) else (none))) else (none))))))
def portreeveref04_counted.f (k : Nat) (a0_0 : Int) (l0_1 : List (S51)) (l0_2 : List (S56)) (l0_3 : List (S68)) (a1_0 : Int) (a1_1 : Int) (a1_2 : Int) (a1_3 : Int) (a1_4 : ByteArray) (a1_5 : Int) (a1_6 : Int) (a1_7 : Int) (a1_8 : Int) : Option (Int × (List (S51)) × (List (S56)) × (List (S68)) × Int) := (portreeveref04_Of.f k a0_0 l0_1 l0_2 l0_3 a1_1).bind fun t323 => (if t323 < 0 then (some (a0_0, l0_1, l0_2, l0_3, 5)) else (if 0 ≤ t323 then (if t323 < (l0_1.length : Int) then (if ((rd_T51 l0_1 t323).f4) > a1_5 then (portreeveref04_counted.j0 k t323 true a0_0 l0_1 l0_2 l0_3 a1_0 a1_1 a1_2 a1_3 a1_4 a1_5 a1_6 a1_7 a1_8) else (portreeveref04_counted.j0 k t323 (decide (((rd_T51 l0_1 t323).f5) > a1_6)) a0_0 l0_1 l0_2 l0_3 a1_0 a1_1 a1_2 a1_3 a1_4 a1_5 a1_6 a1_7 a1_8)) else (none)) else (none)))
theorem portreeveref04_counted.mono_l : ∀ k, (∀ y0 y1 y2 y3 y4 y5 y6 y7 y8 y9 y10 y11 y12 y13 y14, LeO (portreeveref04_counted.j0 k y0 y1 y2 y3 y4 y5 y6 y7 y8 y9 y10 y11 y12 y13 y14) (portreeveref04_counted.j0 (k + 1) y0 y1 y2 y3 y4 y5 y6 y7 y8 y9 y10 y11 y12 y13 y14))
 | 0 => fun _ _ _ _ _ _ _ _ _ _ _ _ _ _ _ r h => by simp [portreeveref04_counted.j0] at h
 | k + 1 => by
  have ih0 := portreeveref04_counted.mono_l k
  ·intro y0 y1 y2 y3 y4 y5 y6 y7 y8 y9 y10 y11 y12 y13 y14
   unfold portreeveref04_counted.j0
   repeat' first
   | (with_reducible exact ih0 _ _ _ _ _ _ _ _ _ _ _ _ _ _ _)
   | (with_reducible exact portreeveref04_Of.mono _ _ _ _ _ _)
   | (with_reducible exact LeO.refl _)
   | (with_reducible exact LeO.none _)
   | (with_reducible refine LeO.ite ?_ ?_)
   | (with_reducible refine LeO.bind ?_ (fun _ => ?_))
   | exact ih0 _ _ _ _ _ _ _ _ _ _ _ _ _ _ _
   | exact portreeveref04_Of.mono _ _ _ _ _ _
   | exact LeO.none _
   | refine LeO.ite ?_ ?_
   | refine LeO.bind ?_ (fun _ => ?_)
theorem portreeveref04_counted.mono : ∀ a0 a1 a2 a3 a4 a5 a6 a7 a8 a9 a10 a11 a12 k, LeO (portreeveref04_counted.f k a0 a1 a2 a3 a4 a5 a6 a7 a8 a9 a10 a11 a12) (portreeveref04_counted.f (k + 1) a0 a1 a2 a3 a4 a5 a6 a7 a8 a9 a10 a11 a12) := by
 intro a0 a1 a2 a3 a4 a5 a6 a7 a8 a9 a10 a11 a12 k
 have ih0 := portreeveref04_counted.mono_l k
 unfold portreeveref04_counted.f
 repeat' first
   | (with_reducible exact ih0 _ _ _ _ _ _ _ _ _ _ _ _ _ _ _)
   | (with_reducible exact portreeveref04_Of.mono _ _ _ _ _ _)
   | (with_reducible exact LeO.refl _)
   | (with_reducible exact LeO.none _)
   | (with_reducible refine LeO.ite ?_ ?_)
   | (with_reducible refine LeO.bind ?_ (fun _ => ?_))
   | exact ih0 _ _ _ _ _ _ _ _ _ _ _ _ _ _ _
   | exact portreeveref04_Of.mono _ _ _ _ _ _
   | exact LeO.none _
   | refine LeO.ite ?_ ?_
   | refine LeO.bind ?_ (fun _ => ?_)
def portreeveref04_counted.T4 : Bool × List (List Nat × List Nat) := (true, [([], []), ([0], [0]), ([], []), ([1, 2], [1, 2]), ([3], [3]), ([4], [4]), ([], []), ([6], [6]), ([5, 7], [5, 7]), ([8], [8]), ([9], [9]), ([10, 9], [9, 10]), ([9], [9]), ([11, 12, 9], [9, 11, 12]), ([13, 9], [9, 13]), ([14, 9], [9, 14]), ([9], [9]), ([16, 9], [9, 16]), ([15, 17, 9], [9, 15, 17]), ([9, 18], [9, 18])])
def portreeveref04_counted.B4 : List Nat := [0, 1, 0, 7, 15, 31, 0, 64, 255, 511, 1023, 2047, 1023, 8191, 16383, 32767, 1023, 66559, 262143, 524287]
theorem portreeveref04_counted.tab4 : rtab .any (opsOf Try.f34 4) = portreeveref04_counted.T4 := by kernel_rfl
theorem portreeveref04_counted.bits4 : waitsOk portreeveref04_counted.T4.2 portreeveref04_counted.B4 = true := by kernel_rfl
def portreeveref04_counted.T8 : Bool × List (List Nat × List Nat) := (true, [([], []), ([], []), ([1], [1]), ([], []), ([2, 3], [2, 3]), ([0, 4], [0, 4]), ([], []), ([6], [6]), ([], []), ([8], [8]), ([7, 9], [7, 9]), ([5, 10, 5], [5, 10]), ([0, 1, 2, 3, 4, 5, 6, 7, 8, 9, 10, 11], []), ([12, 11, 11, 0, 1, 2, 3, 4, 5, 6, 7, 8, 9, 10, 11], [11, 12])])
def portreeveref04_counted.B8 : List Nat := [0, 0, 2, 0, 14, 31, 0, 64, 0, 256, 960, 2047, 4095, 8191]
theorem portreeveref04_counted.tab8 : rtab .any (opsOf Try.f34 8) = portreeveref04_counted.T8 := by kernel_rfl
theorem portreeveref04_counted.bits8 : waitsOk portreeveref04_counted.T8.2 portreeveref04_counted.B8 = true := by kernel_rfl
set_option maxHeartbeats 8000000 in
set_option maxRecDepth 100000 in
theorem portreeveref04_counted.calls (k : Nat) (au : Int) (av : Nat → Prop) (aA : Option Addr) (ay : Nat) (ac : List (S51)) (aw : Nat → Prop) (aE : Option Addr) (aG : Nat) (ao : List (S56)) (ax : Nat → Prop) (aH : Option Addr) (aI : Nat) (aq : List (S68)) (a1_0 : Int) (a1_1 : Int) (a1_2 : Int) (a1_3 : Int) (a1_4 : ByteArray) (a1_5 : Int) (a1_6 : Int) (a1_7 : Int) (a1_8 : Int) (r1 : Int) (r2 : List (S51)) (r3 : List (S56)) (r4 : List (S68)) (r5 : Int) (w : World) (hs0_1 : Kd.V k51 51 w w.heap.size (fun k_ => av k_) (.slice aA ac.length ay) ac) (hs0_2 : Kd.V k56 56 w w.heap.size (fun k_ => aw k_) (.slice aE ao.length aG) ao) (hs0_3 : Kd.V k68 68 w w.heap.size (fun k_ => ax k_) (.slice aH aq.length aI) aq) (h : portreeveref04_counted.f k au ac ao aq a1_0 a1_1 a1_2 a1_3 a1_4 a1_5 a1_6 a1_7 a1_8 = some (r1, r2, r3, r4, r5)) :
  Calls Try.prog 34 #[.agg #[.int .i64 au, .slice aA ac.length ay, .slice aE ao.length aG, .slice aH aq.length aI], .agg #[.int .i64 a1_0, .int .i64 a1_1, .int .i64 a1_2, .int .u32 a1_3, .string a1_4, .int .u64 a1_5, .int .u64 a1_6, .int .i64 a1_7, .int .i64 a1_8]] w fun e w' => ∃ v1_ v2_ v3_ : Value, e = .returned (.tuple #[.agg #[.int .i64 r1, v1_, v2_, v3_], .int .i64 r5]) ∧ Kd.V k51 51 w' w.heap.size (fun k_ => ((av k_ ∨ aw k_ ∨ ax k_) ∨ w.heap.size ≤ k_)) v1_ r2 ∧ Kd.V k56 56 w' w.heap.size (fun k_ => ((av k_ ∨ aw k_ ∨ ax k_) ∨ w.heap.size ≤ k_)) v2_ r3 ∧ Kd.V k68 68 w' w.heap.size (fun k_ => ((av k_ ∨ aw k_ ∨ ax k_) ∨ w.heap.size ≤ k_)) v3_ r4 ∧ Below w.heap.size w w' := by
 have hu46 := Try.underlying46
 have hu35 := Try.underlying35
 have hu51 := Try.underlying51
 have hu56 := Try.underlying56
 have aK := Aside0.mk (show Kd.V k51 51 w w.heap.size (fun k_ => ((av k_ ∨ aw k_ ∨ ax k_) ∨ w.heap.size ≤ k_)) (.slice aA ac.length ay) ac from Kd.V_mono hs0_1 (fun k_ hk => .inl (.inl hk)))
 have aN := Aside0.mk (show Kd.V k56 56 w w.heap.size (fun k_ => ((av k_ ∨ aw k_ ∨ ax k_) ∨ w.heap.size ≤ k_)) (.slice aE ao.length aG) ao from Kd.V_mono hs0_2 (fun k_ hk => .inl (.inr (.inl hk))))
 have aP := Aside0.mk (show Kd.V k68 68 w w.heap.size (fun k_ => ((av k_ ∨ aw k_ ∨ ax k_) ∨ w.heap.size ≤ k_)) (.slice aH aq.length aI) aq from Kd.V_mono hs0_3 (fun k_ hk => .inl (.inr (.inr hk))))
 have HB := Aside0.mk (Below.refl w.heap.size w)
 have H : ((portreeveref04_Of.f k au ac ao aq a1_1).bind fun aa => (if aa < 0 then (some (au, ac, ao, aq, 5)) else (if 0 ≤ aa then (if aa < (ac.length : Int) then (if ((rd_T51 ac aa).f4) > a1_5 then (portreeveref04_counted.j0 k aa true au ac ao aq a1_0 a1_1 a1_2 a1_3 a1_4 a1_5 a1_6 a1_7 a1_8) else (portreeveref04_counted.j0 k aa (decide (((rd_T51 ac aa).f5) > a1_6)) au ac ao aq a1_0 a1_1 a1_2 a1_3 a1_4 a1_5 a1_6 a1_7 a1_8)) else (none)) else (none)))) = some (r1, r2, r3, r4, r5) := h
 clear h
 replace H := Option.bind_eq_some_iff.mp H
 obtain ⟨aa, dZ, H⟩ := H
 replace H : (if aa < 0 then (some (au, ac, ao, aq, 5)) else (if 0 ≤ aa then (if aa < (ac.length : Int) then (if ((rd_T51 ac aa).f4) > a1_5 then (portreeveref04_counted.j0 k aa true au ac ao aq a1_0 a1_1 a1_2 a1_3 a1_4 a1_5 a1_6 a1_7 a1_8) else (portreeveref04_counted.j0 k aa (decide (((rd_T51 ac aa).f5) > a1_6)) au ac ao aq a1_0 a1_1 a1_2 a1_3 a1_4 a1_5 a1_6 a1_7 a1_8)) else (none)) else (none))) = some (r1, r2, r3, r4, r5) := H
 have A3 := Aside0.mk dZ
 clear dZ
 by_cases c4 : aa < 0
 ·rw [if_pos c4] at H
  have dC : decide (aa < 0) = true := decide_eq_true c4
  clear c4
  simp only [Option.some.injEq, Prod.mk.injEq] at H
  obtain ⟨rfl, rfl, rfl, rfl, rfl⟩ := H
  go_enter Try.func34, Try.ntmps34
  go_wp2_with (first | ((with_reducible refine gate_dst (N := 2) rfl ?_); refine box_event ?hg (N := 2) ?hd (cs := #[.int .i64 au, .slice aA ac.length ay, .slice aE ao.length aG, .slice aH aq.length aI]) (t := 46) ?hr ?_; (case hd => rfl); (case hg => rfl); (case hr => first | (go_simp; done) | (go_simp; rfl)); intro af hg w5 hbox hb; have n0_ := Aside0.mk (Kd.V_below (Kd.V_elderB (zV aK.out) af (Nat.le_of_eq hg.symm)) hb); have n1_ := Aside0.mk (Kd.V_below (Kd.V_elderB (zV aN.out) af (Nat.le_of_eq hg.symm)) hb); have n2_ := Aside0.mk (Kd.V_below (Kd.V_elderB (zV aP.out) af (Nat.le_of_eq hg.symm)) hb); have n3_ := Aside0.mk (below_step (zH HB.out) hb); have n4_ := Aside0.mk (hbox); have n5_ := Aside0.mk ((by rw [hg]; exact (below_size (zH HB.out)) : w.heap.size ≤ af)); have n6_ := Aside0.mk ((by rw [hg]; exact (below_size (zH HB.out)) : w.heap.size ≤ af)); clear aK; clear aN; clear aP; clear HB; have aK := n0_; have aN := n1_; have aP := n2_; have HB := n3_; have ae := n4_; have dJ := n5_; have ar := n6_; clear n0_ n1_ n2_ n3_ n4_ n5_ n6_; clear hb hbox hg) | ((with_reducible refine gate_dst (N := 3) rfl ?_); refine box_event ?hg (N := 3) ?hd (cs := #[.int .i64 a1_0, .int .i64 a1_1, .int .i64 a1_2, .int .u32 a1_3, .string a1_4, .int .u64 a1_5, .int .u64 a1_6, .int .i64 a1_7, .int .i64 a1_8]) (t := 35) ?hr ?_; (case hd => rfl); (case hg => rfl); (case hr => first | (go_simp; done) | (go_simp; rfl)); intro ag hg w6 hbox hb; have n0_ := Aside0.mk (Kd.V_below (Kd.V_elderB (zV aK.out) ag (Nat.le_of_eq hg.symm)) hb); have n1_ := Aside0.mk (Kd.V_below (Kd.V_elderB (zV aN.out) ag (Nat.le_of_eq hg.symm)) hb); have n2_ := Aside0.mk (Kd.V_below (Kd.V_elderB (zV aP.out) ag (Nat.le_of_eq hg.symm)) hb); have n3_ := Aside0.mk (blk_below (g := af) (o := .cells #[.int .i64 au, .slice aA ac.length ay, .slice aE ao.length aG, .slice aH aq.length aI] 46 (0, 0)) (zB ae.out) hb); have n4_ := Aside0.mk (below_step (by repeat (first | (with_reducible first | exact HB.out | apply pA | apply pN | apply pD | refine pS ?_ ar.out) | exact HB.out)) hb); have n5_ := Aside0.mk (hbox); have n6_ := Aside0.mk ((by rw [hg]; exact (below_size (by repeat (first | (with_reducible first | exact HB.out | apply pA | apply pN | apply pD | refine pS ?_ ar.out) | exact HB.out))) : w.heap.size ≤ ag)); have n7_ := Aside0.mk ((by rw [hg]; exact (below_size (by repeat (first | (with_reducible first | exact HB.out | apply pA | apply pN | apply pD | refine pS ?_ ar.out) | exact HB.out))) : w.heap.size ≤ ag)); have n8_ := Aside0.mk ((by rw [hg]; exact Nat.ne_of_lt (blk_lt (g := af) (o := .cells #[.int .i64 au, .slice aA ac.length ay, .slice aE ao.length aG, .slice aH aq.length aI] 46 (0, 0)) (zB ae.out)) : af ≠ ag)); have n9_ := Aside0.mk ((by rw [hg]; exact Nat.ne_of_gt (blk_lt (g := af) (o := .cells #[.int .i64 au, .slice aA ac.length ay, .slice aE ao.length aG, .slice aH aq.length aI] 46 (0, 0)) (zB ae.out)) : ag ≠ af)); clear aK; clear aN; clear aP; clear ae; clear HB; have aK := n0_; have aN := n1_; have aP := n2_; have ae := n3_; have HB := n4_; have ah := n5_; have dK := n6_; have az := n7_; have bw := n8_; have bx := n9_; clear n0_ n1_ n2_ n3_ n4_ n5_ n6_ n7_ n8_ n9_; clear hb hbox hg) | ((with_reducible refine gate_dst (N := 4) rfl ?_); refine box_event ?hg (N := 4) ?hd (cs := #[.int .i64 0, .slice none 0 0, .slice none 0 0, .slice none 0 0]) (t := 46) ?hr ?_; (case hd => rfl); (case hg => rfl); (case hr => first | (go_simp; done) | (go_simp; rfl)); intro ab hg w7 hbox hb; have n0_ := Aside0.mk (Kd.V_below (Kd.V_elderB (zV aK.out) ab (Nat.le_of_eq hg.symm)) hb); have n1_ := Aside0.mk (Kd.V_below (Kd.V_elderB (zV aN.out) ab (Nat.le_of_eq hg.symm)) hb); have n2_ := Aside0.mk (Kd.V_below (Kd.V_elderB (zV aP.out) ab (Nat.le_of_eq hg.symm)) hb); have n3_ := Aside0.mk (blk_below (g := af) (o := .cells #[.int .i64 au, .slice aA ac.length ay, .slice aE ao.length aG, .slice aH aq.length aI] 46 (0, 0)) (zB ae.out) hb); have n4_ := Aside0.mk (blk_below (g := ag) (o := .cells #[.int .i64 a1_0, .int .i64 a1_1, .int .i64 a1_2, .int .u32 a1_3, .string a1_4, .int .u64 a1_5, .int .u64 a1_6, .int .i64 a1_7, .int .i64 a1_8] 35 (0, 0)) (zB ah.out) hb); have n5_ := Aside0.mk (below_step (by repeat (first | (with_reducible first | exact HB.out | apply pA | apply pN | apply pD | refine pS ?_ ar.out | refine pS ?_ az.out) | exact HB.out)) hb); have n6_ := Aside0.mk (hbox); have n7_ := Aside0.mk ((by rw [hg]; exact (below_size (by repeat (first | (with_reducible first | exact HB.out | apply pA | apply pN | apply pD | refine pS ?_ ar.out | refine pS ?_ az.out) | exact HB.out))) : w.heap.size ≤ ab)); have n8_ := Aside0.mk ((by rw [hg]; exact (below_size (by repeat (first | (with_reducible first | exact HB.out | apply pA | apply pN | apply pD | refine pS ?_ ar.out | refine pS ?_ az.out) | exact HB.out))) : w.heap.size ≤ ab)); have n9_ := Aside0.mk ((by rw [hg]; exact Nat.ne_of_lt (blk_lt (g := af) (o := .cells #[.int .i64 au, .slice aA ac.length ay, .slice aE ao.length aG, .slice aH aq.length aI] 46 (0, 0)) (zB ae.out)) : af ≠ ab)); have n10_ := Aside0.mk ((by rw [hg]; exact Nat.ne_of_gt (blk_lt (g := af) (o := .cells #[.int .i64 au, .slice aA ac.length ay, .slice aE ao.length aG, .slice aH aq.length aI] 46 (0, 0)) (zB ae.out)) : ab ≠ af)); have n11_ := Aside0.mk ((by rw [hg]; exact Nat.ne_of_lt (blk_lt (g := ag) (o := .cells #[.int .i64 a1_0, .int .i64 a1_1, .int .i64 a1_2, .int .u32 a1_3, .string a1_4, .int .u64 a1_5, .int .u64 a1_6, .int .i64 a1_7, .int .i64 a1_8] 35 (0, 0)) (zB ah.out)) : ag ≠ ab)); have n12_ := Aside0.mk ((by rw [hg]; exact Nat.ne_of_gt (blk_lt (g := ag) (o := .cells #[.int .i64 a1_0, .int .i64 a1_1, .int .i64 a1_2, .int .u32 a1_3, .string a1_4, .int .u64 a1_5, .int .u64 a1_6, .int .i64 a1_7, .int .i64 a1_8] 35 (0, 0)) (zB ah.out)) : ab ≠ ag)); clear aK; clear aN; clear aP; clear ae; clear ah; clear HB; have aK := n0_; have aN := n1_; have aP := n2_; have ae := n3_; have ah := n4_; have HB := n5_; have am := n6_; have dL := n7_; have aC := n8_; have bz := n9_; have bA := n10_; have bB := n11_; have bC := n12_; clear n0_ n1_ n2_ n3_ n4_ n5_ n6_ n7_ n8_ n9_ n10_ n11_ n12_; clear hb hbox hg; have jS := bw.out; have jT := bx.out; have jU := bz.out; have jV := bA.out; obtain ⟨cn, co, cp, cq, cr, ct, cu, cv⟩ := bk4 ae.out; have iW := bB.out; have iX := bC.out; obtain ⟨cw, cx, cy, cz, cA, cB, cC, cD, cE, cF, cG, cH, cI, cJ, cK, cL, cM, cN⟩ := bk9 ah.out) | ((with_reducible refine gate_callee (f := 24) rfl ?_); refine goesL_ (some 13) rfl rfl Try.func24 (by kernel_rfl) rfl #[.agg #[.int .i64 au, .slice aA ac.length ay, .slice aE ao.length aG, .slice aH aq.length aI], .int .i64 a1_1] rfl (by (try simp only [List.map_toArray, List.map_cons, List.map_nil]); first | done | rfl | (simp only [List.length_drop, List.length_take]; rfl)) ?_; (with_reducible refine (portreeveref04_Of.calls k au _ _ ac _ _ ao _ _ aq a1_1 aa _ ?side1 ?side2 ?side3 ?side4 ?side5 ?side6 A3.out).mono ?_); (case side1 => repeat (first | exact (Kd.V_reads' aK.out).2.2 | (with_reducible refine Kd.C_alloc ?_ _) | (with_reducible refine Kd.C_drewN ?_ _) | (with_reducible refine Kd.C_drew ?_))); (case side2 => exact (Kd.V_reads' aK.out).2.1); (case side3 => repeat (first | exact (Kd.V_reads' aN.out).2.2 | (with_reducible refine Kd.C_alloc ?_ _) | (with_reducible refine Kd.C_drewN ?_ _) | (with_reducible refine Kd.C_drew ?_))); (case side4 => exact (Kd.V_reads' aN.out).2.1); (case side5 => repeat (first | exact (Kd.V_reads' aP.out).2.2 | (with_reducible refine Kd.C_alloc ?_ _) | (with_reducible refine Kd.C_drewN ?_ _) | (with_reducible refine Kd.C_drew ?_))); (case side6 => exact (Kd.V_reads' aP.out).2.1); rintro e w13 ⟨rfl, hb⟩; refine ⟨_, rfl, ?_⟩; have n0_ := Aside0.mk (Kd.V_below (zV aK.out) hb); have n1_ := Aside0.mk (Kd.V_below (zV aN.out) hb); have n2_ := Aside0.mk (Kd.V_below (zV aP.out) hb); have n3_ := Aside0.mk (blk_below (g := af) (o := .cells #[.int .i64 au, .slice aA ac.length ay, .slice aE ao.length aG, .slice aH aq.length aI] 46 (0, 0)) (zB ae.out) hb); have n4_ := Aside0.mk (blk_below (g := ag) (o := .cells #[.int .i64 a1_0, .int .i64 a1_1, .int .i64 a1_2, .int .u32 a1_3, .string a1_4, .int .u64 a1_5, .int .u64 a1_6, .int .i64 a1_7, .int .i64 a1_8] 35 (0, 0)) (zB ah.out) hb); have n5_ := Aside0.mk (blk_below (g := ab) (o := .cells #[.int .i64 0, .slice none 0 0, .slice none 0 0, .slice none 0 0] 46 (0, 0)) (zB am.out) hb); have n6_ := Aside0.mk (below_step (by repeat (first | (with_reducible first | exact HB.out | apply pA | apply pN | apply pD | refine pS ?_ ar.out | refine pS ?_ az.out | refine pS ?_ aC.out) | exact HB.out)) hb); clear aK; clear aN; clear aP; clear ae; clear ah; clear am; clear HB; have aK := n0_; have aN := n1_; have aP := n2_; have ae := n3_; have ah := n4_; have am := n5_; have HB := n6_; clear n0_ n1_ n2_ n3_ n4_ n5_ n6_; (try clear hb); (try clear hb2); (try clear hk); (try clear hi); obtain ⟨cO, cP, cQ, cR, cS, cT, cU, cV⟩ := bk4 ae.out; obtain ⟨cW, cX, cY, cZ, c0, c5, c6, c7⟩ := bk4 am.out))
  refine bodyPost_ret (results_ct rfl _ _ ab 46 #[.int .i64 au, .slice aA ac.length ay, .slice aE ao.length aG, .slice aH aq.length aI] (0, 0) _ rfl (by (with_reducible repeat (first | refine qN ?_ _ | refine qD ?_ | refine qA ?_ _)); refine blk_put (cs := #[.int .i64 au, .slice aA ac.length ay, .slice aE ao.length aG, .slice none 0 0]) ?_ 3 _ rfl; (with_reducible repeat (first | refine qN ?_ _ | refine qD ?_ | refine qA ?_ _)); refine blk_put (cs := #[.int .i64 au, .slice aA ac.length ay, .slice none 0 0, .slice none 0 0]) ?_ 2 _ rfl; (with_reducible repeat (first | refine qN ?_ _ | refine qD ?_ | refine qA ?_ _)); refine blk_put (cs := #[.int .i64 au, .slice none 0 0, .slice none 0 0, .slice none 0 0]) ?_ 1 _ rfl; (with_reducible repeat (first | refine qN ?_ _ | refine qD ?_ | refine qA ?_ _)); refine blk_put (cs := #[.int .i64 0, .slice none 0 0, .slice none 0 0, .slice none 0 0]) ?_ 0 _ rfl; (with_reducible repeat (first | refine qN ?_ _ | refine qD ?_ | refine qA ?_ _)); exact am.out) Try.underlying46 rfl (by kernel_rfl)) rfl ?_
  exact ⟨_, _, _, by first | rfl | (simp [errW_none, errW_some] <;> rfl) | (simp [*, errW_none, errW_some] <;> rfl), (fV aK.out (fun k_ hk => (⟨hk, hk.2⟩ : _ ∧ k_ ≠ ab)) (fun _ hk => hk.1.1.1.1)), (fV aN.out (fun k_ hk => (⟨hk, hk.2⟩ : _ ∧ k_ ≠ ab)) (fun _ hk => hk.1.1.1.1)), (fV aP.out (fun k_ hk => (⟨hk, hk.2⟩ : _ ∧ k_ ≠ ab)) (fun _ hk => hk.1.1.1.1)), by repeat (first | (with_reducible first | exact HB.out | apply pA | apply pN | apply pD | refine pS ?_ ar.out | refine pS ?_ az.out | refine pS ?_ aC.out) | exact HB.out)⟩
 ·rw [if_neg c4] at H
  have dC : decide (aa < 0) = false := decide_eq_false c4
  clear c4
  have HC16 := Aside0.mk H
  clear H
  go_enter Try.func34, Try.ntmps34
  go_upto_region 4 with (first | ((with_reducible refine gate_dst (N := 2) rfl ?_); refine box_event ?hg (N := 2) ?hd (cs := #[.int .i64 au, .slice aA ac.length ay, .slice aE ao.length aG, .slice aH aq.length aI]) (t := 46) ?hr ?_; (case hd => rfl); (case hg => rfl); (case hr => first | (go_simp; done) | (go_simp; rfl)); intro af hg w17 hbox hb; have n0_ := Aside0.mk (Kd.V_below (Kd.V_elderB (zV aK.out) af (Nat.le_of_eq hg.symm)) hb); have n1_ := Aside0.mk (Kd.V_below (Kd.V_elderB (zV aN.out) af (Nat.le_of_eq hg.symm)) hb); have n2_ := Aside0.mk (Kd.V_below (Kd.V_elderB (zV aP.out) af (Nat.le_of_eq hg.symm)) hb); have n3_ := Aside0.mk (below_step (zH HB.out) hb); have n4_ := Aside0.mk (hbox); have n5_ := Aside0.mk ((by rw [hg]; exact (below_size (zH HB.out)) : w.heap.size ≤ af)); have n6_ := Aside0.mk ((by rw [hg]; exact (below_size (zH HB.out)) : w.heap.size ≤ af)); clear aK; clear aN; clear aP; clear HB; have aK := n0_; have aN := n1_; have aP := n2_; have HB := n3_; have ae := n4_; have dJ := n5_; have ar := n6_; clear n0_ n1_ n2_ n3_ n4_ n5_ n6_; clear hb hbox hg) | ((with_reducible refine gate_dst (N := 3) rfl ?_); refine box_event ?hg (N := 3) ?hd (cs := #[.int .i64 a1_0, .int .i64 a1_1, .int .i64 a1_2, .int .u32 a1_3, .string a1_4, .int .u64 a1_5, .int .u64 a1_6, .int .i64 a1_7, .int .i64 a1_8]) (t := 35) ?hr ?_; (case hd => rfl); (case hg => rfl); (case hr => first | (go_simp; done) | (go_simp; rfl)); intro ag hg w18 hbox hb; have n0_ := Aside0.mk (Kd.V_below (Kd.V_elderB (zV aK.out) ag (Nat.le_of_eq hg.symm)) hb); have n1_ := Aside0.mk (Kd.V_below (Kd.V_elderB (zV aN.out) ag (Nat.le_of_eq hg.symm)) hb); have n2_ := Aside0.mk (Kd.V_below (Kd.V_elderB (zV aP.out) ag (Nat.le_of_eq hg.symm)) hb); have n3_ := Aside0.mk (blk_below (g := af) (o := .cells #[.int .i64 au, .slice aA ac.length ay, .slice aE ao.length aG, .slice aH aq.length aI] 46 (0, 0)) (zB ae.out) hb); have n4_ := Aside0.mk (below_step (by repeat (first | (with_reducible first | exact HB.out | apply pA | apply pN | apply pD | refine pS ?_ ar.out) | exact HB.out)) hb); have n5_ := Aside0.mk (hbox); have n6_ := Aside0.mk ((by rw [hg]; exact (below_size (by repeat (first | (with_reducible first | exact HB.out | apply pA | apply pN | apply pD | refine pS ?_ ar.out) | exact HB.out))) : w.heap.size ≤ ag)); have n7_ := Aside0.mk ((by rw [hg]; exact (below_size (by repeat (first | (with_reducible first | exact HB.out | apply pA | apply pN | apply pD | refine pS ?_ ar.out) | exact HB.out))) : w.heap.size ≤ ag)); have n8_ := Aside0.mk ((by rw [hg]; exact Nat.ne_of_lt (blk_lt (g := af) (o := .cells #[.int .i64 au, .slice aA ac.length ay, .slice aE ao.length aG, .slice aH aq.length aI] 46 (0, 0)) (zB ae.out)) : af ≠ ag)); have n9_ := Aside0.mk ((by rw [hg]; exact Nat.ne_of_gt (blk_lt (g := af) (o := .cells #[.int .i64 au, .slice aA ac.length ay, .slice aE ao.length aG, .slice aH aq.length aI] 46 (0, 0)) (zB ae.out)) : ag ≠ af)); clear aK; clear aN; clear aP; clear ae; clear HB; have aK := n0_; have aN := n1_; have aP := n2_; have ae := n3_; have HB := n4_; have ah := n5_; have dK := n6_; have az := n7_; have bw := n8_; have bx := n9_; clear n0_ n1_ n2_ n3_ n4_ n5_ n6_ n7_ n8_ n9_; clear hb hbox hg) | ((with_reducible refine gate_dst (N := 4) rfl ?_); refine box_event ?hg (N := 4) ?hd (cs := #[.int .i64 0, .slice none 0 0, .slice none 0 0, .slice none 0 0]) (t := 46) ?hr ?_; (case hd => rfl); (case hg => rfl); (case hr => first | (go_simp; done) | (go_simp; rfl)); intro ab hg w19 hbox hb; have n0_ := Aside0.mk (Kd.V_below (Kd.V_elderB (zV aK.out) ab (Nat.le_of_eq hg.symm)) hb); have n1_ := Aside0.mk (Kd.V_below (Kd.V_elderB (zV aN.out) ab (Nat.le_of_eq hg.symm)) hb); have n2_ := Aside0.mk (Kd.V_below (Kd.V_elderB (zV aP.out) ab (Nat.le_of_eq hg.symm)) hb); have n3_ := Aside0.mk (blk_below (g := af) (o := .cells #[.int .i64 au, .slice aA ac.length ay, .slice aE ao.length aG, .slice aH aq.length aI] 46 (0, 0)) (zB ae.out) hb); have n4_ := Aside0.mk (blk_below (g := ag) (o := .cells #[.int .i64 a1_0, .int .i64 a1_1, .int .i64 a1_2, .int .u32 a1_3, .string a1_4, .int .u64 a1_5, .int .u64 a1_6, .int .i64 a1_7, .int .i64 a1_8] 35 (0, 0)) (zB ah.out) hb); have n5_ := Aside0.mk (below_step (by repeat (first | (with_reducible first | exact HB.out | apply pA | apply pN | apply pD | refine pS ?_ ar.out | refine pS ?_ az.out) | exact HB.out)) hb); have n6_ := Aside0.mk (hbox); have n7_ := Aside0.mk ((by rw [hg]; exact (below_size (by repeat (first | (with_reducible first | exact HB.out | apply pA | apply pN | apply pD | refine pS ?_ ar.out | refine pS ?_ az.out) | exact HB.out))) : w.heap.size ≤ ab)); have n8_ := Aside0.mk ((by rw [hg]; exact (below_size (by repeat (first | (with_reducible first | exact HB.out | apply pA | apply pN | apply pD | refine pS ?_ ar.out | refine pS ?_ az.out) | exact HB.out))) : w.heap.size ≤ ab)); have n9_ := Aside0.mk ((by rw [hg]; exact Nat.ne_of_lt (blk_lt (g := af) (o := .cells #[.int .i64 au, .slice aA ac.length ay, .slice aE ao.length aG, .slice aH aq.length aI] 46 (0, 0)) (zB ae.out)) : af ≠ ab)); have n10_ := Aside0.mk ((by rw [hg]; exact Nat.ne_of_gt (blk_lt (g := af) (o := .cells #[.int .i64 au, .slice aA ac.length ay, .slice aE ao.length aG, .slice aH aq.length aI] 46 (0, 0)) (zB ae.out)) : ab ≠ af)); have n11_ := Aside0.mk ((by rw [hg]; exact Nat.ne_of_lt (blk_lt (g := ag) (o := .cells #[.int .i64 a1_0, .int .i64 a1_1, .int .i64 a1_2, .int .u32 a1_3, .string a1_4, .int .u64 a1_5, .int .u64 a1_6, .int .i64 a1_7, .int .i64 a1_8] 35 (0, 0)) (zB ah.out)) : ag ≠ ab)); have n12_ := Aside0.mk ((by rw [hg]; exact Nat.ne_of_gt (blk_lt (g := ag) (o := .cells #[.int .i64 a1_0, .int .i64 a1_1, .int .i64 a1_2, .int .u32 a1_3, .string a1_4, .int .u64 a1_5, .int .u64 a1_6, .int .i64 a1_7, .int .i64 a1_8] 35 (0, 0)) (zB ah.out)) : ab ≠ ag)); clear aK; clear aN; clear aP; clear ae; clear ah; clear HB; have aK := n0_; have aN := n1_; have aP := n2_; have ae := n3_; have ah := n4_; have HB := n5_; have am := n6_; have dL := n7_; have aC := n8_; have bz := n9_; have bA := n10_; have bB := n11_; have bC := n12_; clear n0_ n1_ n2_ n3_ n4_ n5_ n6_ n7_ n8_ n9_ n10_ n11_ n12_; clear hb hbox hg; have iY := bw.out; have iZ := bx.out; have i0 := bz.out; have i1 := bA.out; obtain ⟨da, db, dc, dd, de, df, dg, dh⟩ := bk4 ae.out; have i2 := bB.out; have i3 := bC.out; obtain ⟨di, dj, dk, dl, dm, dn, dp, dq, dr, dt, du, dv, dw, dx, dy, dz, dA, dB⟩ := bk9 ah.out) | ((with_reducible refine gate_callee (f := 24) rfl ?_); refine goesL_ (some 13) rfl rfl Try.func24 (by kernel_rfl) rfl #[.agg #[.int .i64 au, .slice aA ac.length ay, .slice aE ao.length aG, .slice aH aq.length aI], .int .i64 a1_1] rfl (by (try simp only [List.map_toArray, List.map_cons, List.map_nil]); first | done | rfl | (simp only [List.length_drop, List.length_take]; rfl)) ?_; (with_reducible refine (portreeveref04_Of.calls k au _ _ ac _ _ ao _ _ aq a1_1 aa _ ?side1 ?side2 ?side3 ?side4 ?side5 ?side6 A3.out).mono ?_); (case side1 => repeat (first | exact (Kd.V_reads' aK.out).2.2 | (with_reducible refine Kd.C_alloc ?_ _) | (with_reducible refine Kd.C_drewN ?_ _) | (with_reducible refine Kd.C_drew ?_))); (case side2 => exact (Kd.V_reads' aK.out).2.1); (case side3 => repeat (first | exact (Kd.V_reads' aN.out).2.2 | (with_reducible refine Kd.C_alloc ?_ _) | (with_reducible refine Kd.C_drewN ?_ _) | (with_reducible refine Kd.C_drew ?_))); (case side4 => exact (Kd.V_reads' aN.out).2.1); (case side5 => repeat (first | exact (Kd.V_reads' aP.out).2.2 | (with_reducible refine Kd.C_alloc ?_ _) | (with_reducible refine Kd.C_drewN ?_ _) | (with_reducible refine Kd.C_drew ?_))); (case side6 => exact (Kd.V_reads' aP.out).2.1); rintro e w25 ⟨rfl, hb⟩; refine ⟨_, rfl, ?_⟩; have n0_ := Aside0.mk (Kd.V_below (zV aK.out) hb); have n1_ := Aside0.mk (Kd.V_below (zV aN.out) hb); have n2_ := Aside0.mk (Kd.V_below (zV aP.out) hb); have n3_ := Aside0.mk (blk_below (g := af) (o := .cells #[.int .i64 au, .slice aA ac.length ay, .slice aE ao.length aG, .slice aH aq.length aI] 46 (0, 0)) (zB ae.out) hb); have n4_ := Aside0.mk (blk_below (g := ag) (o := .cells #[.int .i64 a1_0, .int .i64 a1_1, .int .i64 a1_2, .int .u32 a1_3, .string a1_4, .int .u64 a1_5, .int .u64 a1_6, .int .i64 a1_7, .int .i64 a1_8] 35 (0, 0)) (zB ah.out) hb); have n5_ := Aside0.mk (blk_below (g := ab) (o := .cells #[.int .i64 0, .slice none 0 0, .slice none 0 0, .slice none 0 0] 46 (0, 0)) (zB am.out) hb); have n6_ := Aside0.mk (below_step (by repeat (first | (with_reducible first | exact HB.out | apply pA | apply pN | apply pD | refine pS ?_ ar.out | refine pS ?_ az.out | refine pS ?_ aC.out) | exact HB.out)) hb); clear aK; clear aN; clear aP; clear ae; clear ah; clear am; clear HB; have aK := n0_; have aN := n1_; have aP := n2_; have ae := n3_; have ah := n4_; have am := n5_; have HB := n6_; clear n0_ n1_ n2_ n3_ n4_ n5_ n6_; (try clear hb); (try clear hb2); (try clear hk); (try clear hi)))
  (try simp only [Act.put, sT, s0, s1])
  go_cut [36] (fun v36 wc => ∃ (kq : Nat) (b2 : Bool), v36 = .bool b2 ∧ Aside0 (portreeveref04_counted.j0 kq aa b2 au ac ao aq a1_0 a1_1 a1_2 a1_3 a1_4 a1_5 a1_6 a1_7 a1_8 = some (r1, r2, r3, r4, r5)) ∧ Aside0 (kq ≤ k) ∧ Aside0 (Kd.V k51 51 wc w.heap.size (fun k_ => ((av k_ ∨ aw k_ ∨ ax k_) ∨ w.heap.size ≤ k_) ∧ k_ ≠ af ∧ k_ ≠ ag ∧ k_ ≠ ab) (.slice aA ac.length ay) ac) ∧ Aside0 (Kd.V k56 56 wc w.heap.size (fun k_ => ((av k_ ∨ aw k_ ∨ ax k_) ∨ w.heap.size ≤ k_) ∧ k_ ≠ af ∧ k_ ≠ ag ∧ k_ ≠ ab) (.slice aE ao.length aG) ao) ∧ Aside0 (Kd.V k68 68 wc w.heap.size (fun k_ => ((av k_ ∨ aw k_ ∨ ax k_) ∨ w.heap.size ≤ k_) ∧ k_ ≠ af ∧ k_ ≠ ag ∧ k_ ≠ ab) (.slice aH aq.length aI) aq) ∧ Aside0 (wc.heap[af]? = some (.cells #[.int .i64 au, (.slice aA ac.length ay), (.slice aE ao.length aG), (.slice aH aq.length aI)] 46 (0, 0))) ∧ Aside0 (wc.heap[ag]? = some (.cells #[.int .i64 a1_0, .int .i64 a1_1, .int .i64 a1_2, .int .u32 a1_3, .string a1_4, .int .u64 a1_5, .int .u64 a1_6, .int .i64 a1_7, .int .i64 a1_8] 35 (0, 0))) ∧ Aside0 (wc.heap[ab]? = some (.cells #[.int .i64 0, (.slice none 0 0), (.slice none 0 0), (.slice none 0 0)] 46 (0, 0))) ∧ Aside0 (Below w.heap.size w wc))
  case first =>
   have H := HC16.out
   clear HC16
   by_cases c26 : 0 ≤ aa
   ·rw [if_pos c26] at H
    have b7 : decide (0 ≤ aa) = true := decide_eq_true c26
    clear c26
    (first | rw [b7] | (simp only [i64_w, i32_w]; rw [b7]) | skip)
    by_cases c27 : aa < (ac.length : Int)
    ·rw [if_pos c27] at H
     have dM : decide (aa < (ac.length : Int)) = true := decide_eq_true c27
     clear c27
     by_cases c28 : ((rd_T51 ac aa).f4) > a1_5
     ·rw [if_pos c28] at H
      have ch : decide (a1_5 < ((rd_T51 ac aa).f4)) = true := decide_eq_true c28
      clear c28
      have H' := Aside0.mk H
      clear H
      try go_wp2
      have n0_ := Aside0.mk (Kd.V_drew aK.out)
      have n1_ := Aside0.mk (Kd.V_drew aN.out)
      have n2_ := Aside0.mk (Kd.V_drew aP.out)
      have n3_ := Aside0.mk (qD ae.out)
      have n4_ := Aside0.mk (qD ah.out)
      have n5_ := Aside0.mk (qD am.out)
      have n6_ := Aside0.mk (pD HB.out)
      clear aK
      clear aN
      clear aP
      clear ae
      clear ah
      clear am
      clear HB
      have aK := n0_
      have aN := n1_
      have aP := n2_
      have ae := n3_
      have ah := n4_
      have am := n5_
      have HB := n6_
      clear n0_ n1_ n2_ n3_ n4_ n5_ n6_
      have p324 : 0 ≤ (aa : Int) := of_decide_eq_true (by first | (with_reducible assumption) | assumption)
      have q324 : aa < (ac.length : Int) := of_decide_eq_true (by first | (with_reducible assumption) | assumption)
      obtain ⟨aQ, e324, hx324_0, hx324_1, hx324_2, hx324_3, hx324_4, hx324_5⟩ := at_T51 (Kd.V_reads' aK.out).2.2 aa p324 q324
      cases e324
      replace p324 := eq_true p324
      replace q324 := eq_true q324
      refine start_ (n := 20) (S := fun w' => w'.cell? ⟨af, 0, none⟩ = some (.int .i64 au) ∧ w'.cell? ⟨af, 1, none⟩ = some (.slice (some aQ) ac.length ay) ∧ w'.cell? ⟨af, 2, none⟩ = some (.slice aE ao.length aG) ∧ w'.cell? ⟨af, 3, none⟩ = some (.slice aH aq.length aI) ∧ w'.cell? ⟨ag, 0, none⟩ = some (.int .i64 a1_0) ∧ w'.cell? ⟨ag, 1, none⟩ = some (.int .i64 a1_1) ∧ w'.cell? ⟨ag, 2, none⟩ = some (.int .i64 a1_2) ∧ w'.cell? ⟨ag, 3, none⟩ = some (.int .u32 a1_3) ∧ w'.cell? ⟨ag, 4, none⟩ = some (.string a1_4) ∧ w'.cell? ⟨ag, 5, none⟩ = some (.int .u64 a1_5) ∧ w'.cell? ⟨ag, 6, none⟩ = some (.int .u64 a1_6) ∧ w'.cell? ⟨ag, 7, none⟩ = some (.int .i64 a1_7) ∧ w'.cell? ⟨ag, 8, none⟩ = some (.int .i64 a1_8) ∧ w'.cell? (aQ.add ((aa).toNat * 6)) = some (.int .i64 ((rd_T51 ac aa).f0)) ∧ w'.cell? ⟨(aQ.add ((aa).toNat * 6)).block, (aQ.add ((aa).toNat * 6)).off + 1, none⟩ = some (.int .i64 ((rd_T51 ac aa).f1)) ∧ w'.cell? ⟨(aQ.add ((aa).toNat * 6)).block, (aQ.add ((aa).toNat * 6)).off + 2, none⟩ = some (.int .u32 ((rd_T51 ac aa).f2)) ∧ w'.cell? ⟨(aQ.add ((aa).toNat * 6)).block, (aQ.add ((aa).toNat * 6)).off + 3, none⟩ = some (.string ((rd_T51 ac aa).f3)) ∧ w'.cell? ⟨(aQ.add ((aa).toNat * 6)).block, (aQ.add ((aa).toNat * 6)).off + 4, none⟩ = some (.int .u64 ((rd_T51 ac aa).f4)) ∧ w'.cell? ⟨(aQ.add ((aa).toNat * 6)).block, (aQ.add ((aa).toNat * 6)).off + 5, none⟩ = some (.int .u64 ((rd_T51 ac aa).f5))) (ds := []) #[false, false, false, false, false, false, false, false, false, false, false, false, false, false, false, false, false, false, false, false] (by kernel_rfl) rfl rfl ⟨(blk_cell ae.out 0).trans rfl, (blk_cell ae.out 1).trans rfl, (blk_cell ae.out 2).trans rfl, (blk_cell ae.out 3).trans rfl, (blk_cell ah.out 0).trans rfl, (blk_cell ah.out 1).trans rfl, (blk_cell ah.out 2).trans rfl, (blk_cell ah.out 3).trans rfl, (blk_cell ah.out 4).trans rfl, (blk_cell ah.out 5).trans rfl, (blk_cell ah.out 6).trans rfl, (blk_cell ah.out 7).trans rfl, (blk_cell ah.out 8).trans rfl, hx324_0, hx324_1, hx324_2, hx324_3, hx324_4, hx324_5⟩ (fun hHeld => ?_); refine with_tabW portreeveref04_counted.tab4 portreeveref04_counted.bits4 (fun HT_ HW_ => ?_)
      generalize w25.drew = w29 at aK aN aP ae ah am HB hx324_0 hx324_1 hx324_2 hx324_3 hx324_4 hx324_5 hHeld ⊢
      refine pure_ (i := 0) (N := some 17) (v := ?_) (a' := ?_) #[true, false, false, false, false, false, false, false, false, false, false, false, false, false, false, false, false, false, false, false] rfl rfl (any_of HT_.out (by kernel_rfl)) (fun _ _ _ h => h) (Or.inl ⟨by rfl, ?_⟩) ?_ ?_
      rotate_left
      ·intro w'
       go_simp
       with_reducible rfl
      rotate_left
      ·simp only [Act.put, sT, s0, s1, i64_w, i32_w]
       rfl
      refine pure_ (i := 2) (N := some 19) (v := ?_) (a' := ?_) #[true, false, true, false, false, false, false, false, false, false, false, false, false, false, false, false, false, false, false, false] rfl rfl (any_of HT_.out (by kernel_rfl)) (fun _ _ _ h => h) (Or.inl ⟨by rfl, ?_⟩) ?_ ?_
      rotate_left
      ·intro w'
       go_simp
       with_reducible rfl
      rotate_left
      ·simp only [Act.put, sT, s0, s1, i64_w, i32_w]
       rfl
      refine pure_ (i := 6) (N := some 23) (v := ?_) (a' := ?_) #[true, false, true, false, false, false, true, false, false, false, false, false, false, false, false, false, false, false, false, false] rfl rfl (any_of HT_.out (by kernel_rfl)) (fun _ _ _ h => h) (Or.inl ⟨by rfl, ?_⟩) ?_ ?_
      rotate_left
      ·intro w'
       go_simp
       with_reducible rfl
      rotate_left
      ·simp only [Act.put, sT, s0, s1, i64_w, i32_w]
       rfl
      refine take_ (i := 1) (N := some 18) (v := ?_) (a' := ?_) #[true, true, true, false, false, false, true, false, false, false, false, false, false, false, false, false, false, false, false, false] rfl rfl (take_ofW HT_.out HW_.out (by kernel_rfl)) (fun _ _ _ h => h) (Or.inl ⟨by rfl, ?_⟩) hHeld ?_ ?_
      rotate_left
      ·rintro w' ⟨s0, s1, s2, s3, s4, s5, s6, s7, s8, s9, s10, s11, s12, s13, s14, s15, s16, s17, s18⟩
       go_simp
       with_reducible rfl
      rotate_left
      ·simp only [Act.put, sT, s0, s1, i64_w, i32_w]
       rfl
      refine pure_ (i := 3) (N := some 20) (v := ?_) (a' := ?_) #[true, true, true, true, false, false, true, false, false, false, false, false, false, false, false, false, false, false, false, false] rfl rfl (any_of HT_.out (by kernel_rfl)) (fun _ _ _ h => h) (Or.inl ⟨by rfl, ?_⟩) ?_ ?_
      rotate_left
      ·intro w'
       go_simp
       with_reducible rfl
      rotate_left
      ·simp only [Act.put, sT, s0, s1, i64_w, i32_w]
       rfl
      refine pure_ (i := 4) (N := some 21) (v := ?_) (a' := ?_) #[true, true, true, true, true, false, true, false, false, false, false, false, false, false, false, false, false, false, false, false] rfl rfl (any_of HT_.out (by kernel_rfl)) (fun _ _ _ h => h) (Or.inl ⟨by rfl, ?_⟩) ?_ ?_
      rotate_left
      ·intro w'
       go_simp
       with_reducible rfl
      rotate_left
      ·simp only [Act.put, sT, s0, s1, i64_w, i32_w]
       rfl
      refine take_ (i := 5) (N := some 22) (v := ?_) (a' := ?_) #[true, true, true, true, true, true, true, false, false, false, false, false, false, false, false, false, false, false, false, false] rfl rfl (take_ofW HT_.out HW_.out (by kernel_rfl)) (fun _ _ _ h => h) (Or.inl ⟨by rfl, ?_⟩) hHeld ?_ ?_
      rotate_left
      ·rintro w' ⟨s0, s1, s2, s3, s4, s5, s6, s7, s8, s9, s10, s11, s12, s13, s14, s15, s16, s17, s18⟩
       go_simp
       with_reducible rfl
      rotate_left
      ·simp only [Act.put, sT, s0, s1, i64_w, i32_w]
       rfl
      refine take_ (i := 7) (N := some 24) (v := ?_) (a' := ?_) #[true, true, true, true, true, true, true, true, false, false, false, false, false, false, false, false, false, false, false, false] rfl rfl (take_ofW HT_.out HW_.out (by kernel_rfl)) (fun _ _ _ h => h) (Or.inl ⟨by rfl, ?_⟩) hHeld ?_ ?_
      rotate_left
      ·rintro w' ⟨s0, s1, s2, s3, s4, s5, s6, s7, s8, s9, s10, s11, s12, s13, s14, s15, s16, s17, s18⟩
       go_simp
       with_reducible rfl
      rotate_left
      ·simp only [Act.put, sT, s0, s1, i64_w, i32_w]
       rfl
      refine pure_ (i := 8) (N := some 25) (v := ?_) (a' := ?_) #[true, true, true, true, true, true, true, true, true, false, false, false, false, false, false, false, false, false, false, false] rfl rfl (any_of HT_.out (by kernel_rfl)) (fun _ _ _ h => h) (Or.inl ⟨by rfl, ?_⟩) ?_ ?_
      rotate_left
      ·intro w'
       go_simp
       with_reducible rfl
      rotate_left
      ·simp only [Act.put, sT, s0, s1, i64_w, i32_w]
       rfl
      refine pure_ (i := 9) (N := some 26) (v := ?_) (a' := ?_) #[true, true, true, true, true, true, true, true, true, true, false, false, false, false, false, false, false, false, false, false] rfl rfl (any_of HT_.out (by kernel_rfl)) (fun _ _ _ h => h) (Or.inl ⟨by rfl, ?_⟩) ?_ ?_
      rotate_left
      ·intro w'
       go_simp
       with_reducible rfl
      rotate_left
      ·simp only [Act.put, sT, s0, s1, i64_w, i32_w]
       rfl
      refine pure_ (i := 10) (N := some 27) (v := undef) (a' := ?_) #[true, true, true, true, true, true, true, true, true, true, true, false, false, false, false, false, false, false, false, false] rfl rfl (any_of HT_.out (by kernel_rfl)) (fun _ _ _ h => h) (Or.inr ⟨by rfl, rfl⟩) ?_ ?_
      rotate_left
      ·simp only [Act.put, sT, s0, s1, i64_w, i32_w]
       rfl
      refine pure_ (i := 11) (N := some 28) (v := undef) (a' := ?_) #[true, true, true, true, true, true, true, true, true, true, true, true, false, false, false, false, false, false, false, false] rfl rfl (any_of HT_.out (by kernel_rfl)) (fun _ _ _ h => h) (Or.inr ⟨by rfl, rfl⟩) ?_ ?_
      rotate_left
      ·simp only [Act.put, sT, s0, s1, i64_w, i32_w]
       rfl
      refine pure_ (i := 12) (N := some 29) (v := undef) (a' := ?_) #[true, true, true, true, true, true, true, true, true, true, true, true, true, false, false, false, false, false, false, false] rfl rfl (any_of HT_.out (by kernel_rfl)) (fun _ _ _ h => h) (Or.inr ⟨by rfl, rfl⟩) ?_ ?_
      rotate_left
      ·simp only [Act.put, sT, s0, s1, i64_w, i32_w]
       rfl
      refine pure_ (i := 13) (N := some 30) (v := undef) (a' := ?_) #[true, true, true, true, true, true, true, true, true, true, true, true, true, true, false, false, false, false, false, false] rfl rfl (any_of HT_.out (by kernel_rfl)) (fun _ _ _ h => h) (Or.inr ⟨by rfl, rfl⟩) ?_ ?_
      rotate_left
      ·simp only [Act.put, sT, s0, s1, i64_w, i32_w]
       rfl
      refine pure_ (i := 14) (N := some 31) (v := undef) (a' := ?_) #[true, true, true, true, true, true, true, true, true, true, true, true, true, true, true, false, false, false, false, false] rfl rfl (any_of HT_.out (by kernel_rfl)) (fun _ _ _ h => h) (Or.inr ⟨by rfl, rfl⟩) ?_ ?_
      rotate_left
      ·simp only [Act.put, sT, s0, s1, i64_w, i32_w]
       rfl
      refine pure_ (i := 15) (N := some 32) (v := undef) (a' := ?_) #[true, true, true, true, true, true, true, true, true, true, true, true, true, true, true, true, false, false, false, false] rfl rfl (any_of HT_.out (by kernel_rfl)) (fun _ _ _ h => h) (Or.inr ⟨by rfl, rfl⟩) ?_ ?_
      rotate_left
      ·simp only [Act.put, sT, s0, s1, i64_w, i32_w]
       rfl
      refine pure_ (i := 16) (N := some 33) (v := undef) (a' := ?_) #[true, true, true, true, true, true, true, true, true, true, true, true, true, true, true, true, true, false, false, false] rfl rfl (any_of HT_.out (by kernel_rfl)) (fun _ _ _ h => h) (Or.inr ⟨by rfl, rfl⟩) ?_ ?_
      rotate_left
      ·simp only [Act.put, sT, s0, s1, i64_w, i32_w]
       rfl
      refine pure_ (i := 17) (N := some 34) (v := undef) (a' := ?_) #[true, true, true, true, true, true, true, true, true, true, true, true, true, true, true, true, true, true, false, false] rfl rfl (any_of HT_.out (by kernel_rfl)) (fun _ _ _ h => h) (Or.inr ⟨by rfl, rfl⟩) ?_ ?_
      rotate_left
      ·simp only [Act.put, sT, s0, s1, i64_w, i32_w]
       rfl
      refine pure_ (i := 18) (N := some 35) (v := undef) (a' := ?_) #[true, true, true, true, true, true, true, true, true, true, true, true, true, true, true, true, true, true, true, false] rfl rfl (any_of HT_.out (by kernel_rfl)) (fun _ _ _ h => h) (Or.inr ⟨by rfl, rfl⟩) ?_ ?_
      rotate_left
      ·simp only [Act.put, sT, s0, s1, i64_w, i32_w]
       rfl
      refine pure_ (i := 19) (N := some 36) (v := ?_) (a' := ?_) #[true, true, true, true, true, true, true, true, true, true, true, true, true, true, true, true, true, true, true, true] rfl rfl (any_of HT_.out (by kernel_rfl)) (fun _ _ _ h => h) (Or.inl ⟨by rfl, ?_⟩) ?_ ?_
      rotate_left
      ·intro w'
       go_simp
       with_reducible rfl
      rotate_left
      ·simp only [Act.put, sT, s0, s1, i64_w, i32_w]
       rfl
      refine done_ (done_of HT_.out (by kernel_rfl)) ?_
      try go_wp2
      go_meet
      case rel => exact ⟨_, (true), (by first | rfl | (simp; done) | (simp [*]; done)), H', ⟨by first | omega | exact Nat.le_refl _⟩, ⟨zV (Kd.V_mono aK.out (fun _ hk => ⟨hk.1.1.1, ⟨hk.1.1.2, ⟨hk.1.2, hk.2⟩⟩⟩))⟩, ⟨zV (Kd.V_mono aN.out (fun _ hk => ⟨hk.1.1.1, ⟨hk.1.1.2, ⟨hk.1.2, hk.2⟩⟩⟩))⟩, ⟨zV (Kd.V_mono aP.out (fun _ hk => ⟨hk.1.1.1, ⟨hk.1.1.2, ⟨hk.1.2, hk.2⟩⟩⟩))⟩, ⟨zB ae.out⟩, ⟨zB ah.out⟩, ⟨zB am.out⟩, ⟨by repeat (first | (with_reducible first | exact HB.out | apply pA | apply pN | apply pD | refine pS ?_ ar.out | refine pS ?_ az.out | refine pS ?_ aC.out) | exact HB.out)⟩⟩
     ·rw [if_neg c28] at H
      have ch : decide (a1_5 < ((rd_T51 ac aa).f4)) = false := decide_eq_false c28
      clear c28
      have H' := Aside0.mk H
      clear H
      try go_wp2
      have n0_ := Aside0.mk (Kd.V_drew aK.out)
      have n1_ := Aside0.mk (Kd.V_drew aN.out)
      have n2_ := Aside0.mk (Kd.V_drew aP.out)
      have n3_ := Aside0.mk (qD ae.out)
      have n4_ := Aside0.mk (qD ah.out)
      have n5_ := Aside0.mk (qD am.out)
      have n6_ := Aside0.mk (pD HB.out)
      clear aK
      clear aN
      clear aP
      clear ae
      clear ah
      clear am
      clear HB
      have aK := n0_
      have aN := n1_
      have aP := n2_
      have ae := n3_
      have ah := n4_
      have am := n5_
      have HB := n6_
      clear n0_ n1_ n2_ n3_ n4_ n5_ n6_
      have p324 : 0 ≤ (aa : Int) := of_decide_eq_true (by first | (with_reducible assumption) | assumption)
      have q324 : aa < (ac.length : Int) := of_decide_eq_true (by first | (with_reducible assumption) | assumption)
      obtain ⟨aQ, e324, hx324_0, hx324_1, hx324_2, hx324_3, hx324_4, hx324_5⟩ := at_T51 (Kd.V_reads' aK.out).2.2 aa p324 q324
      cases e324
      replace p324 := eq_true p324
      replace q324 := eq_true q324
      have p325 : 0 ≤ (aa : Int) := of_decide_eq_true (by first | (with_reducible assumption) | assumption)
      have q325 : aa < (ac.length : Int) := of_decide_eq_true (by first | (with_reducible assumption) | assumption)
      obtain ⟨dN, e325, hx325_0, hx325_1, hx325_2, hx325_3, hx325_4, hx325_5⟩ := at_T51 (Kd.V_reads' aK.out).2.2 aa p325 q325
      obtain rfl : aQ = dN := (by injection e325)
      replace p325 := eq_true p325
      replace q325 := eq_true q325
      refine start_ (n := 20) (S := fun w' => w'.cell? ⟨af, 0, none⟩ = some (.int .i64 au) ∧ w'.cell? ⟨af, 1, none⟩ = some (.slice (some aQ) ac.length ay) ∧ w'.cell? ⟨af, 2, none⟩ = some (.slice aE ao.length aG) ∧ w'.cell? ⟨af, 3, none⟩ = some (.slice aH aq.length aI) ∧ w'.cell? ⟨ag, 0, none⟩ = some (.int .i64 a1_0) ∧ w'.cell? ⟨ag, 1, none⟩ = some (.int .i64 a1_1) ∧ w'.cell? ⟨ag, 2, none⟩ = some (.int .i64 a1_2) ∧ w'.cell? ⟨ag, 3, none⟩ = some (.int .u32 a1_3) ∧ w'.cell? ⟨ag, 4, none⟩ = some (.string a1_4) ∧ w'.cell? ⟨ag, 5, none⟩ = some (.int .u64 a1_5) ∧ w'.cell? ⟨ag, 6, none⟩ = some (.int .u64 a1_6) ∧ w'.cell? ⟨ag, 7, none⟩ = some (.int .i64 a1_7) ∧ w'.cell? ⟨ag, 8, none⟩ = some (.int .i64 a1_8) ∧ w'.cell? (aQ.add ((aa).toNat * 6)) = some (.int .i64 ((rd_T51 ac aa).f0)) ∧ w'.cell? ⟨(aQ.add ((aa).toNat * 6)).block, (aQ.add ((aa).toNat * 6)).off + 1, none⟩ = some (.int .i64 ((rd_T51 ac aa).f1)) ∧ w'.cell? ⟨(aQ.add ((aa).toNat * 6)).block, (aQ.add ((aa).toNat * 6)).off + 2, none⟩ = some (.int .u32 ((rd_T51 ac aa).f2)) ∧ w'.cell? ⟨(aQ.add ((aa).toNat * 6)).block, (aQ.add ((aa).toNat * 6)).off + 3, none⟩ = some (.string ((rd_T51 ac aa).f3)) ∧ w'.cell? ⟨(aQ.add ((aa).toNat * 6)).block, (aQ.add ((aa).toNat * 6)).off + 4, none⟩ = some (.int .u64 ((rd_T51 ac aa).f4)) ∧ w'.cell? ⟨(aQ.add ((aa).toNat * 6)).block, (aQ.add ((aa).toNat * 6)).off + 5, none⟩ = some (.int .u64 ((rd_T51 ac aa).f5)) ∧ w'.cell? (aQ.add ((aa).toNat * 6)) = some (.int .i64 ((rd_T51 ac aa).f0)) ∧ w'.cell? ⟨(aQ.add ((aa).toNat * 6)).block, (aQ.add ((aa).toNat * 6)).off + 1, none⟩ = some (.int .i64 ((rd_T51 ac aa).f1)) ∧ w'.cell? ⟨(aQ.add ((aa).toNat * 6)).block, (aQ.add ((aa).toNat * 6)).off + 2, none⟩ = some (.int .u32 ((rd_T51 ac aa).f2)) ∧ w'.cell? ⟨(aQ.add ((aa).toNat * 6)).block, (aQ.add ((aa).toNat * 6)).off + 3, none⟩ = some (.string ((rd_T51 ac aa).f3)) ∧ w'.cell? ⟨(aQ.add ((aa).toNat * 6)).block, (aQ.add ((aa).toNat * 6)).off + 4, none⟩ = some (.int .u64 ((rd_T51 ac aa).f4)) ∧ w'.cell? ⟨(aQ.add ((aa).toNat * 6)).block, (aQ.add ((aa).toNat * 6)).off + 5, none⟩ = some (.int .u64 ((rd_T51 ac aa).f5))) (ds := []) #[false, false, false, false, false, false, false, false, false, false, false, false, false, false, false, false, false, false, false, false] (by kernel_rfl) rfl rfl ⟨(blk_cell ae.out 0).trans rfl, (blk_cell ae.out 1).trans rfl, (blk_cell ae.out 2).trans rfl, (blk_cell ae.out 3).trans rfl, (blk_cell ah.out 0).trans rfl, (blk_cell ah.out 1).trans rfl, (blk_cell ah.out 2).trans rfl, (blk_cell ah.out 3).trans rfl, (blk_cell ah.out 4).trans rfl, (blk_cell ah.out 5).trans rfl, (blk_cell ah.out 6).trans rfl, (blk_cell ah.out 7).trans rfl, (blk_cell ah.out 8).trans rfl, hx324_0, hx324_1, hx324_2, hx324_3, hx324_4, hx324_5, hx325_0, hx325_1, hx325_2, hx325_3, hx325_4, hx325_5⟩ (fun hHeld => ?_); refine with_tabW portreeveref04_counted.tab4 portreeveref04_counted.bits4 (fun HT_ HW_ => ?_)
      generalize w25.drew = w30 at aK aN aP ae ah am HB hx324_0 hx324_1 hx324_2 hx324_3 hx324_4 hx324_5 hx325_0 hx325_1 hx325_2 hx325_3 hx325_4 hx325_5 hHeld ⊢
      refine pure_ (i := 0) (N := some 17) (v := ?_) (a' := ?_) #[true, false, false, false, false, false, false, false, false, false, false, false, false, false, false, false, false, false, false, false] rfl rfl (any_of HT_.out (by kernel_rfl)) (fun _ _ _ h => h) (Or.inl ⟨by rfl, ?_⟩) ?_ ?_
      rotate_left
      ·intro w'
       go_simp
       with_reducible rfl
      rotate_left
      ·simp only [Act.put, sT, s0, s1, i64_w, i32_w]
       rfl
      refine pure_ (i := 2) (N := some 19) (v := ?_) (a' := ?_) #[true, false, true, false, false, false, false, false, false, false, false, false, false, false, false, false, false, false, false, false] rfl rfl (any_of HT_.out (by kernel_rfl)) (fun _ _ _ h => h) (Or.inl ⟨by rfl, ?_⟩) ?_ ?_
      rotate_left
      ·intro w'
       go_simp
       with_reducible rfl
      rotate_left
      ·simp only [Act.put, sT, s0, s1, i64_w, i32_w]
       rfl
      refine pure_ (i := 6) (N := some 23) (v := ?_) (a' := ?_) #[true, false, true, false, false, false, true, false, false, false, false, false, false, false, false, false, false, false, false, false] rfl rfl (any_of HT_.out (by kernel_rfl)) (fun _ _ _ h => h) (Or.inl ⟨by rfl, ?_⟩) ?_ ?_
      rotate_left
      ·intro w'
       go_simp
       with_reducible rfl
      rotate_left
      ·simp only [Act.put, sT, s0, s1, i64_w, i32_w]
       rfl
      refine take_ (i := 1) (N := some 18) (v := ?_) (a' := ?_) #[true, true, true, false, false, false, true, false, false, false, false, false, false, false, false, false, false, false, false, false] rfl rfl (take_ofW HT_.out HW_.out (by kernel_rfl)) (fun _ _ _ h => h) (Or.inl ⟨by rfl, ?_⟩) hHeld ?_ ?_
      rotate_left
      ·rintro w' ⟨s0, s1, s2, s3, s4, s5, s6, s7, s8, s9, s10, s11, s12, s13, s14, s15, s16, s17, s18, s19, s20, s21, s22, s23, s24⟩
       go_simp
       with_reducible rfl
      rotate_left
      ·simp only [Act.put, sT, s0, s1, i64_w, i32_w]
       rfl
      refine pure_ (i := 3) (N := some 20) (v := ?_) (a' := ?_) #[true, true, true, true, false, false, true, false, false, false, false, false, false, false, false, false, false, false, false, false] rfl rfl (any_of HT_.out (by kernel_rfl)) (fun _ _ _ h => h) (Or.inl ⟨by rfl, ?_⟩) ?_ ?_
      rotate_left
      ·intro w'
       go_simp
       with_reducible rfl
      rotate_left
      ·simp only [Act.put, sT, s0, s1, i64_w, i32_w]
       rfl
      refine pure_ (i := 4) (N := some 21) (v := ?_) (a' := ?_) #[true, true, true, true, true, false, true, false, false, false, false, false, false, false, false, false, false, false, false, false] rfl rfl (any_of HT_.out (by kernel_rfl)) (fun _ _ _ h => h) (Or.inl ⟨by rfl, ?_⟩) ?_ ?_
      rotate_left
      ·intro w'
       go_simp
       with_reducible rfl
      rotate_left
      ·simp only [Act.put, sT, s0, s1, i64_w, i32_w]
       rfl
      refine take_ (i := 5) (N := some 22) (v := ?_) (a' := ?_) #[true, true, true, true, true, true, true, false, false, false, false, false, false, false, false, false, false, false, false, false] rfl rfl (take_ofW HT_.out HW_.out (by kernel_rfl)) (fun _ _ _ h => h) (Or.inl ⟨by rfl, ?_⟩) hHeld ?_ ?_
      rotate_left
      ·rintro w' ⟨s0, s1, s2, s3, s4, s5, s6, s7, s8, s9, s10, s11, s12, s13, s14, s15, s16, s17, s18, s19, s20, s21, s22, s23, s24⟩
       go_simp
       with_reducible rfl
      rotate_left
      ·simp only [Act.put, sT, s0, s1, i64_w, i32_w]
       rfl
      refine take_ (i := 7) (N := some 24) (v := ?_) (a' := ?_) #[true, true, true, true, true, true, true, true, false, false, false, false, false, false, false, false, false, false, false, false] rfl rfl (take_ofW HT_.out HW_.out (by kernel_rfl)) (fun _ _ _ h => h) (Or.inl ⟨by rfl, ?_⟩) hHeld ?_ ?_
      rotate_left
      ·rintro w' ⟨s0, s1, s2, s3, s4, s5, s6, s7, s8, s9, s10, s11, s12, s13, s14, s15, s16, s17, s18, s19, s20, s21, s22, s23, s24⟩
       go_simp
       with_reducible rfl
      rotate_left
      ·simp only [Act.put, sT, s0, s1, i64_w, i32_w]
       rfl
      refine pure_ (i := 8) (N := some 25) (v := ?_) (a' := ?_) #[true, true, true, true, true, true, true, true, true, false, false, false, false, false, false, false, false, false, false, false] rfl rfl (any_of HT_.out (by kernel_rfl)) (fun _ _ _ h => h) (Or.inl ⟨by rfl, ?_⟩) ?_ ?_
      rotate_left
      ·intro w'
       go_simp
       with_reducible rfl
      rotate_left
      ·simp only [Act.put, sT, s0, s1, i64_w, i32_w]
       rfl
      refine pure_ (i := 9) (N := some 26) (v := ?_) (a' := ?_) #[true, true, true, true, true, true, true, true, true, true, false, false, false, false, false, false, false, false, false, false] rfl rfl (any_of HT_.out (by kernel_rfl)) (fun _ _ _ h => h) (Or.inl ⟨by rfl, ?_⟩) ?_ ?_
      rotate_left
      ·intro w'
       go_simp
       with_reducible rfl
      rotate_left
      ·simp only [Act.put, sT, s0, s1, i64_w, i32_w]
       rfl
      refine pure_ (i := 10) (N := some 27) (v := ?_) (a' := ?_) #[true, true, true, true, true, true, true, true, true, true, true, false, false, false, false, false, false, false, false, false] rfl rfl (any_of HT_.out (by kernel_rfl)) (fun _ _ _ h => h) (Or.inl ⟨by rfl, ?_⟩) ?_ ?_
      rotate_left
      ·intro w'
       go_simp
       with_reducible rfl
      rotate_left
      ·simp only [Act.put, sT, s0, s1, i64_w, i32_w]
       rfl
      refine pure_ (i := 12) (N := some 29) (v := ?_) (a' := ?_) #[true, true, true, true, true, true, true, true, true, true, true, false, true, false, false, false, false, false, false, false] rfl rfl (any_of HT_.out (by kernel_rfl)) (fun _ _ _ h => h) (Or.inl ⟨by rfl, ?_⟩) ?_ ?_
      rotate_left
      ·intro w'
       go_simp
       with_reducible rfl
      rotate_left
      ·simp only [Act.put, sT, s0, s1, i64_w, i32_w]
       rfl
      refine pure_ (i := 16) (N := some 33) (v := ?_) (a' := ?_) #[true, true, true, true, true, true, true, true, true, true, true, false, true, false, false, false, true, false, false, false] rfl rfl (any_of HT_.out (by kernel_rfl)) (fun _ _ _ h => h) (Or.inl ⟨by rfl, ?_⟩) ?_ ?_
      rotate_left
      ·intro w'
       go_simp
       with_reducible rfl
      rotate_left
      ·simp only [Act.put, sT, s0, s1, i64_w, i32_w]
       rfl
      refine take_ (i := 11) (N := some 28) (v := ?_) (a' := ?_) #[true, true, true, true, true, true, true, true, true, true, true, true, true, false, false, false, true, false, false, false] rfl rfl (take_ofW HT_.out HW_.out (by kernel_rfl)) (fun _ _ _ h => h) (Or.inl ⟨by rfl, ?_⟩) hHeld ?_ ?_
      rotate_left
      ·rintro w' ⟨s0, s1, s2, s3, s4, s5, s6, s7, s8, s9, s10, s11, s12, s13, s14, s15, s16, s17, s18, s19, s20, s21, s22, s23, s24⟩
       go_simp
       with_reducible rfl
      rotate_left
      ·simp only [Act.put, sT, s0, s1, i64_w, i32_w]
       rfl
      refine pure_ (i := 13) (N := some 30) (v := ?_) (a' := ?_) #[true, true, true, true, true, true, true, true, true, true, true, true, true, true, false, false, true, false, false, false] rfl rfl (any_of HT_.out (by kernel_rfl)) (fun _ _ _ h => h) (Or.inl ⟨by rfl, ?_⟩) ?_ ?_
      rotate_left
      ·intro w'
       go_simp
       with_reducible rfl
      rotate_left
      ·simp only [Act.put, sT, s0, s1, i64_w, i32_w]
       rfl
      refine pure_ (i := 14) (N := some 31) (v := ?_) (a' := ?_) #[true, true, true, true, true, true, true, true, true, true, true, true, true, true, true, false, true, false, false, false] rfl rfl (any_of HT_.out (by kernel_rfl)) (fun _ _ _ h => h) (Or.inl ⟨by rfl, ?_⟩) ?_ ?_
      rotate_left
      ·intro w'
       go_simp
       with_reducible rfl
      rotate_left
      ·simp only [Act.put, sT, s0, s1, i64_w, i32_w]
       rfl
      refine take_ (i := 15) (N := some 32) (v := ?_) (a' := ?_) #[true, true, true, true, true, true, true, true, true, true, true, true, true, true, true, true, true, false, false, false] rfl rfl (take_ofW HT_.out HW_.out (by kernel_rfl)) (fun _ _ _ h => h) (Or.inl ⟨by rfl, ?_⟩) hHeld ?_ ?_
      rotate_left
      ·rintro w' ⟨s0, s1, s2, s3, s4, s5, s6, s7, s8, s9, s10, s11, s12, s13, s14, s15, s16, s17, s18, s19, s20, s21, s22, s23, s24⟩
       go_simp
       with_reducible rfl
      rotate_left
      ·simp only [Act.put, sT, s0, s1, i64_w, i32_w]
       rfl
      refine take_ (i := 17) (N := some 34) (v := ?_) (a' := ?_) #[true, true, true, true, true, true, true, true, true, true, true, true, true, true, true, true, true, true, false, false] rfl rfl (take_ofW HT_.out HW_.out (by kernel_rfl)) (fun _ _ _ h => h) (Or.inl ⟨by rfl, ?_⟩) hHeld ?_ ?_
      rotate_left
      ·rintro w' ⟨s0, s1, s2, s3, s4, s5, s6, s7, s8, s9, s10, s11, s12, s13, s14, s15, s16, s17, s18, s19, s20, s21, s22, s23, s24⟩
       go_simp
       with_reducible rfl
      rotate_left
      ·simp only [Act.put, sT, s0, s1, i64_w, i32_w]
       rfl
      refine pure_ (i := 18) (N := some 35) (v := ?_) (a' := ?_) #[true, true, true, true, true, true, true, true, true, true, true, true, true, true, true, true, true, true, true, false] rfl rfl (any_of HT_.out (by kernel_rfl)) (fun _ _ _ h => h) (Or.inl ⟨by rfl, ?_⟩) ?_ ?_
      rotate_left
      ·intro w'
       go_simp
       with_reducible rfl
      rotate_left
      ·simp only [Act.put, sT, s0, s1, i64_w, i32_w]
       rfl
      refine pure_ (i := 19) (N := some 36) (v := ?_) (a' := ?_) #[true, true, true, true, true, true, true, true, true, true, true, true, true, true, true, true, true, true, true, true] rfl rfl (any_of HT_.out (by kernel_rfl)) (fun _ _ _ h => h) (Or.inl ⟨by rfl, ?_⟩) ?_ ?_
      rotate_left
      ·intro w'
       go_simp
       with_reducible rfl
      rotate_left
      ·simp only [Act.put, sT, s0, s1, i64_w, i32_w]
       rfl
      refine done_ (done_of HT_.out (by kernel_rfl)) ?_
      try go_wp2
      go_meet
      case rel => exact ⟨_, (decide (((rd_T51 ac aa).f5) > a1_6)), (by first | rfl | (simp; done) | (simp [*]; done)), H', ⟨by first | omega | exact Nat.le_refl _⟩, ⟨zV (Kd.V_mono aK.out (fun _ hk => ⟨hk.1.1.1, ⟨hk.1.1.2, ⟨hk.1.2, hk.2⟩⟩⟩))⟩, ⟨zV (Kd.V_mono aN.out (fun _ hk => ⟨hk.1.1.1, ⟨hk.1.1.2, ⟨hk.1.2, hk.2⟩⟩⟩))⟩, ⟨zV (Kd.V_mono aP.out (fun _ hk => ⟨hk.1.1.1, ⟨hk.1.1.2, ⟨hk.1.2, hk.2⟩⟩⟩))⟩, ⟨zB ae.out⟩, ⟨zB ah.out⟩, ⟨zB am.out⟩, ⟨by repeat (first | (with_reducible first | exact HB.out | apply pA | apply pN | apply pD | refine pS ?_ ar.out | refine pS ?_ az.out | refine pS ?_ aC.out) | exact HB.out)⟩⟩
    ·rw [if_neg c27] at H
     exact absurd H (by simp)
   ·rw [if_neg c26] at H
    exact absurd H (by simp)
  case rest =>
   clear HC16
   try clear c1
   try clear c2
   try clear p2
   try clear c3
   try clear p3
   try clear q3
   try clear hx3
   try clear c4
   try clear dC
   try clear c8
   try clear c9
   try clear c11
   try clear c20
   try clear c21
   try clear c23
   try clear c24
   try clear c26
   try clear b7
   try clear c27
   try clear dM
   try clear c28
   try clear ch
   try clear cn
   try clear co
   try clear cp
   try clear cq
   try clear cw
   try clear cx
   try clear cy
   try clear cz
   try clear cA
   try clear cB
   try clear cC
   try clear cD
   try clear cE
   try clear cO
   try clear cP
   try clear cQ
   try clear cR
   try clear cW
   try clear cX
   try clear cY
   try clear cZ
   try clear da
   try clear db
   try clear dc
   try clear dd
   try clear di
   try clear dj
   try clear dk
   try clear dl
   try clear dm
   try clear dn
   try clear dp
   try clear dq
   try clear dr
   try clear cr
   try clear ct
   try clear cu
   try clear cv
   try clear cF
   try clear cG
   try clear cH
   try clear cI
   try clear cJ
   try clear cK
   try clear cL
   try clear cM
   try clear cN
   try clear cS
   try clear cT
   try clear cU
   try clear cV
   try clear c0
   try clear c5
   try clear c6
   try clear c7
   try clear de
   try clear df
   try clear dg
   try clear dh
   try clear dt
   try clear du
   try clear dv
   try clear dw
   try clear dx
   try clear dy
   try clear dz
   try clear dA
   try clear dB
   try clear hx324_0
   try clear hx324_1
   try clear hx324_2
   try clear hx324_3
   try clear hx324_4
   try clear hx324_5
   try clear hx325_0
   try clear hx325_1
   try clear hx325_2
   try clear hx325_3
   try clear hx325_4
   try clear hx325_5
   try clear p324
   try clear p325
   try clear q324
   try clear q325
   obtain ⟨kq, b2, rfl, HA, jW, ai, aj, al, ae, ah, am, HB⟩ := hcut
   cases kq with
   | zero => exact absurd HA.out (by simp [portreeveref04_counted.j0])
   | succ jX =>
    have H := HA.out
    clear HA
    simp only [portreeveref04_counted.j0] at H
    by_cases c31 : b2 = true
    ·subst c31
     have H1 : (some (au, ac, ao, aq, 7)) = some (r1, r2, r3, r4, r5) := by rw [if_pos rfl] at H; exact H
     clear H
     have H := H1
     clear H1
     simp only [Option.some.injEq, Prod.mk.injEq] at H
     obtain ⟨rfl, rfl, rfl, rfl, rfl⟩ := H
     have i4 := bw.out
     have i5 := bx.out
     have i6 := bz.out
     have i7 := bA.out
     obtain ⟨gi, gj, gk, gl, gm, gn, go, gp⟩ := bk4 ae.out
     have i8 := bC.out
     have i9 := bB.out
     obtain ⟨gq, gr, gs, gt, gu, gv, gw, gx⟩ := bk4 am.out
     go_wp2
     refine bodyPost_ret (results_ct rfl _ _ ab 46 #[.int .i64 au, .slice aA ac.length ay, .slice aE ao.length aG, .slice aH aq.length aI] (0, 0) _ rfl (by (with_reducible repeat (first | refine qN ?_ _ | refine qD ?_ | refine qA ?_ _)); refine blk_put (cs := #[.int .i64 au, .slice aA ac.length ay, .slice aE ao.length aG, .slice none 0 0]) ?_ 3 _ rfl; (with_reducible repeat (first | refine qN ?_ _ | refine qD ?_ | refine qA ?_ _)); refine blk_put (cs := #[.int .i64 au, .slice aA ac.length ay, .slice none 0 0, .slice none 0 0]) ?_ 2 _ rfl; (with_reducible repeat (first | refine qN ?_ _ | refine qD ?_ | refine qA ?_ _)); refine blk_put (cs := #[.int .i64 au, .slice none 0 0, .slice none 0 0, .slice none 0 0]) ?_ 1 _ rfl; (with_reducible repeat (first | refine qN ?_ _ | refine qD ?_ | refine qA ?_ _)); refine blk_put (cs := #[.int .i64 0, .slice none 0 0, .slice none 0 0, .slice none 0 0]) ?_ 0 _ rfl; (with_reducible repeat (first | refine qN ?_ _ | refine qD ?_ | refine qA ?_ _)); exact am.out) Try.underlying46 rfl (by kernel_rfl)) rfl ?_
     exact ⟨_, _, _, by first | rfl | (simp [errW_none, errW_some] <;> rfl) | (simp [*, errW_none, errW_some] <;> rfl), (fV ai.out (fun k_ hk => (⟨hk, hk.2.2.2⟩ : _ ∧ k_ ≠ ab)) (fun _ hk => hk.1.1)), (fV aj.out (fun k_ hk => (⟨hk, hk.2.2.2⟩ : _ ∧ k_ ≠ ab)) (fun _ hk => hk.1.1)), (fV al.out (fun k_ hk => (⟨hk, hk.2.2.2⟩ : _ ∧ k_ ≠ ab)) (fun _ hk => hk.1.1)), by repeat (first | (with_reducible first | exact HB.out | apply pA | apply pN | apply pD | refine pS ?_ ar.out | refine pS ?_ az.out | refine pS ?_ aC.out) | exact HB.out)⟩
    ·replace c31 := Bool.eq_false_iff.mpr c31
     subst c31
     have H1 : (if a1_0 = 3 then ((portreeveref04_With.f au ac ao aq 3 a1_1 a1_5 a1_6 a1_7).bind fun b8 => ((some (([] : List (S51)) : List (S51))).bind fun bJ => (if 0 ≤ aa then (if aa ≤ (ac.length : Int) then ((some (ac.take (aa : Int).toNat : List (S51))).bind fun bv => (if bJ.length + bv.length < 2513169434916 then ((some (bJ ++ bv : List (S51))).bind fun bo => (if 0 ≤ (wrap64 (aa + 1)) then (if (wrap64 (aa + 1)) ≤ (ac.length : Int) then ((some (ac.drop ((wrap64 (aa + 1)) : Int).toNat : List (S51))).bind fun bf => (if bo.length + bf.length < 2513169434916 then (some (b8.1, (bo ++ bf), b8.2.2.1, b8.2.2.2, 0)) else (none))) else (none)) else (none))) else (none))) else (none)) else (none)))) else (if (wrap64 ((wrap64 ((ao.length : Int) + (ac.length : Int))) + 1)) > 60 then (some (au, ac, ao, aq, 4)) else ((portreeveref04_With.f au ac ao aq 2 a1_1 a1_5 a1_6 0).bind fun b9 => ((some (([] : List (S51)) : List (S51))).bind fun bN => (if bN.length + ac.length < 2513169434916 then ((some (bN ++ ac : List (S51))).bind fun ad => (if 0 ≤ aa then (if aa < (ad.length : Int) then (some (b9.1, (ad.set (aa : Int).toNat (⟨(rd_T51 ad aa).f0, (rd_T51 ad aa).f1, (rd_T51 ad aa).f2, (rd_T51 ad aa).f3, a1_5, a1_6⟩ : S51)), b9.2.2.1, b9.2.2.2, 0)) else (none)) else (none))) else (none)))))) = some (r1, r2, r3, r4, r5) := by rw [if_neg (show ¬ (false = true) by decide)] at H; exact H
     clear H
     have H := H1
     clear H1
     by_cases c37 : a1_0 = 3
     ·rw [if_pos c37] at H
      have dO : (a1_0 == 3) = true := beq_iff_eq.mpr c37
      have dP : (a1_0 != 3) = false := bne_eq_false_iff_eq.mpr c37
      clear c37
      replace H := Option.bind_eq_some_iff.mp H
      obtain ⟨⟨ba, bn, aM, bg⟩, dD, H⟩ := H
      replace H : ((some (([] : List (S51)) : List (S51))).bind fun bJ => (if 0 ≤ aa then (if aa ≤ (ac.length : Int) then ((some (ac.take (aa : Int).toNat : List (S51))).bind fun bv => (if bJ.length + bv.length < 2513169434916 then ((some (bJ ++ bv : List (S51))).bind fun bo => (if 0 ≤ (wrap64 (aa + 1)) then (if (wrap64 (aa + 1)) ≤ (ac.length : Int) then ((some (ac.drop ((wrap64 (aa + 1)) : Int).toNat : List (S51))).bind fun bf => (if bo.length + bf.length < 2513169434916 then (some (ba, (bo ++ bf), aM, bg, 0)) else (none))) else (none)) else (none))) else (none))) else (none)) else (none))) = some (r1, r2, r3, r4, r5) := H
      have d0 := Aside0.mk dD
      clear dD
      obtain ⟨bJ, hy337⟩ : ∃ y_ : List (S51), y_ = (([] : List (S51))) := ⟨_, rfl⟩
      replace H : (if 0 ≤ aa then (if aa ≤ (ac.length : Int) then ((some (ac.take (aa : Int).toNat : List (S51))).bind fun bv => (if bJ.length + bv.length < 2513169434916 then ((some (bJ ++ bv : List (S51))).bind fun bo => (if 0 ≤ (wrap64 (aa + 1)) then (if (wrap64 (aa + 1)) ≤ (ac.length : Int) then ((some (ac.drop ((wrap64 (aa + 1)) : Int).toNat : List (S51))).bind fun bf => (if bo.length + bf.length < 2513169434916 then (some (ba, (bo ++ bf), aM, bg, 0)) else (none))) else (none)) else (none))) else (none))) else (none)) else (none)) = some (r1, r2, r3, r4, r5) := by first | (rw [hy337]; with_reducible exact H) | (have H2_ := (Option.bind_some _ _).symm.trans H; rw [hy337]; with_reducible exact H2_) | (have H2_ := (Option.bind_some _ _).symm.trans H; with_reducible exact H2_) | with_reducible exact H | (rw [hy337]; exact H) | exact H
      have ci := Aside0.mk hy337
      clear hy337
      by_cases c39 : 0 ≤ aa
      ·rw [if_pos c39] at H
       have ja := eq_true c39
       have jb : decide (0 ≤ aa) = true := decide_eq_true c39
       clear c39
       by_cases c40 : aa ≤ (ac.length : Int)
       ·rw [if_pos c40] at H
        have jc := eq_true c40
        have jd : decide (aa ≤ (ac.length : Int)) = true := decide_eq_true c40
        clear c40
        obtain ⟨bv, hy340⟩ : ∃ y_ : List (S51), y_ = (ac.take (aa : Int).toNat) := ⟨_, rfl⟩
        replace H : (if bJ.length + bv.length < 2513169434916 then ((some (bJ ++ bv : List (S51))).bind fun bo => (if 0 ≤ (wrap64 (aa + 1)) then (if (wrap64 (aa + 1)) ≤ (ac.length : Int) then ((some (ac.drop ((wrap64 (aa + 1)) : Int).toNat : List (S51))).bind fun bf => (if bo.length + bf.length < 2513169434916 then (some (ba, (bo ++ bf), aM, bg, 0)) else (none))) else (none)) else (none))) else (none)) = some (r1, r2, r3, r4, r5) := by first | (rw [hy340]; with_reducible exact H) | (have H2_ := (Option.bind_some _ _).symm.trans H; rw [hy340]; with_reducible exact H2_) | (have H2_ := (Option.bind_some _ _).symm.trans H; with_reducible exact H2_) | with_reducible exact H | (rw [hy340]; exact H) | exact H
        have cj := Aside0.mk hy340
        clear hy340
        by_cases c41 : bJ.length + bv.length < 2513169434916
        ·rw [if_pos c41] at H
         have dQ := Aside0.mk c41
         clear c41
         obtain ⟨bo, hy345⟩ : ∃ y_ : List (S51), y_ = (bJ ++ bv) := ⟨_, rfl⟩
         replace H : (if 0 ≤ (wrap64 (aa + 1)) then (if (wrap64 (aa + 1)) ≤ (ac.length : Int) then ((some (ac.drop ((wrap64 (aa + 1)) : Int).toNat : List (S51))).bind fun bf => (if bo.length + bf.length < 2513169434916 then (some (ba, (bo ++ bf), aM, bg, 0)) else (none))) else (none)) else (none)) = some (r1, r2, r3, r4, r5) := by first | (rw [hy345]; with_reducible exact H) | (have H2_ := (Option.bind_some _ _).symm.trans H; rw [hy345]; with_reducible exact H2_) | (have H2_ := (Option.bind_some _ _).symm.trans H; with_reducible exact H2_) | with_reducible exact H | (rw [hy345]; exact H) | exact H
         have dR := Aside0.mk hy345
         clear hy345
         obtain ⟨ji42, hji42⟩ : ∃ j_ : Int, (wrap64 (aa + 1)) = j_ := ⟨_, rfl⟩
         replace H : (if 0 ≤ (ji42) then (if (ji42) ≤ (ac.length : Int) then ((some (ac.drop ((ji42) : Int).toNat : List (S51))).bind fun bf => (if bo.length + bf.length < 2513169434916 then (some (ba, (bo ++ bf), aM, bg, 0)) else (none))) else (none)) else (none)) = some (r1, r2, r3, r4, r5) := by first | (rw [hji42] at H; exact H) | (simp only [hji42] at H ⊢; exact H)
         (try rw [hji42] at d0)
         have hji42w : (IntKind.i64.wrap (aa + 1)) = ji42 := (i64_w _).trans hji42
         by_cases c43 : 0 ≤ (ji42)
         ·rw [if_pos c43] at H
          have je := eq_true c43
          have jf : decide (0 ≤ (ji42)) = true := decide_eq_true c43
          clear c43
          by_cases c44 : (ji42) ≤ (ac.length : Int)
          ·rw [if_pos c44] at H
           have jg := eq_true c44
           have jh : decide ((ji42) ≤ (ac.length : Int)) = true := decide_eq_true c44
           clear c44
           obtain ⟨bf, hy348⟩ : ∃ y_ : List (S51), y_ = (ac.drop ((ji42) : Int).toNat) := ⟨_, rfl⟩
           replace H : (if bo.length + bf.length < 2513169434916 then (some (ba, (bo ++ bf), aM, bg, 0)) else (none)) = some (r1, r2, r3, r4, r5) := by first | (rw [hy348]; with_reducible exact H) | (have H2_ := (Option.bind_some _ _).symm.trans H; rw [hy348]; with_reducible exact H2_) | (have H2_ := (Option.bind_some _ _).symm.trans H; with_reducible exact H2_) | with_reducible exact H | (rw [hy348]; exact H) | exact H
           have ck := Aside0.mk hy348
           clear hy348
           by_cases c45 : bo.length + bf.length < 2513169434916
           ·rw [if_pos c45] at H
            have dS := Aside0.mk c45
            clear c45
            obtain ⟨bY, hy353⟩ : ∃ y_ : List (S51), y_ = (bo ++ bf) := ⟨_, rfl⟩
            replace H : (some (ba, bY, aM, bg, 0)) = some (r1, r2, r3, r4, r5) := by first | (rw [hy353]; with_reducible exact H) | (have H2_ := (Option.bind_some _ _).symm.trans H; rw [hy353]; with_reducible exact H2_) | (have H2_ := (Option.bind_some _ _).symm.trans H; with_reducible exact H2_) | with_reducible exact H | (rw [hy353]; exact H) | exact H
            have dT := Aside0.mk hy353
            clear hy353
            simp only [Option.some.injEq, Prod.mk.injEq] at H
            obtain ⟨rfl, rfl, rfl, rfl, rfl⟩ := H
            have ji := bx.out
            have jj := bw.out
            have jk := bB.out
            have jl := bC.out
            obtain ⟨gy, gz, gA, gB, gC, gD, gE, gF, gG, gH, gI, gJ, gK, gL, gM, gN, gO, gP⟩ := bk9 ah.out
            have jm := bz.out
            have jn := bA.out
            obtain ⟨gQ, gR, gS, gT, gU, gV, gW, gX⟩ := bk4 ae.out
            try go_wp2_with (first | ((with_reducible refine gate_callee (f := 37) rfl ?_); refine goesL_ (some 51) rfl rfl Try.func37 (by kernel_rfl) rfl #[.agg #[.int .i64 au, .slice aA ac.length ay, .slice aE ao.length aG, .slice aH aq.length aI], .agg #[.int .i64 3, .int .i64 a1_1, .int .u64 a1_5, .int .u64 a1_6, .int .i64 a1_7]] rfl (by (try simp only [List.map_toArray, List.map_cons, List.map_nil]); first | done | rfl | (simp only [List.length_drop, List.length_take]; rfl)) ?_; (with_reducible refine (portreeveref04_With.calls au (fun k_ => (((av k_ ∨ aw k_ ∨ ax k_) ∨ w.heap.size ≤ k_) ∧ (k_ ≠ af ∧ (k_ ≠ ag ∧ k_ ≠ ab)))) _ _ ac _ _ ao (fun k_ => (((av k_ ∨ aw k_ ∨ ax k_) ∨ w.heap.size ≤ k_) ∧ (k_ ≠ af ∧ (k_ ≠ ag ∧ k_ ≠ ab)))) _ _ aq 3 a1_1 a1_5 a1_6 a1_7 ba bn aM bg _ ?side1 ?side2 ?side3 ?side4 d0.out).mono ?_); (case side1 => exact ai.out); (case side2 => repeat (first | exact (Kd.V_reads' aj.out).2.2 | (with_reducible refine Kd.C_alloc ?_ _) | (with_reducible refine Kd.C_drewN ?_ _) | (with_reducible refine Kd.C_drew ?_))); (case side3 => exact (Kd.V_reads' aj.out).2.1); (case side4 => exact al.out); rintro e w51 ⟨v328, v331, v334, rfl, ho0, ho1, ho2, hb⟩; refine ⟨_, rfl, ?_⟩; have n0_ := Aside0.mk (Kd.V_elder' (zV ai.out) (Kd.R_base ho1) hb); have n1_ := Aside0.mk (Kd.V_elder' (zV aj.out) (Kd.R_base ho1) hb); have n2_ := Aside0.mk (Kd.V_elder' (zV al.out) (Kd.R_base ho1) hb); have n3_ := Aside0.mk (Kd.V_lower (Kd.V_mono (ok' := fun k_ => ((av k_ ∨ aw k_ ∨ ax k_) ∨ w.heap.size ≤ k_) ∧ some k_ ≠ (v331 : Value).ownBlock ∧ k_ ≠ af ∧ k_ ≠ ag ∧ k_ ≠ ab) ho0 (fun k_ hk_ => ⟨Or.elim hk_.1 (fun hs_ => Or.elim hs_ (fun hs_ => hs_.1) (fun hs_ => hs_.1)) (fun hn_ => (.inr (Nat.le_trans (below_size (by repeat (first | (with_reducible first | exact HB.out | apply pA | apply pN | apply pD | refine pS ?_ ar.out | refine pS ?_ az.out | refine pS ?_ aC.out) | exact HB.out))) hn_))), hk_.2, Or.elim hk_.1 (fun hs_ => Or.elim hs_ (fun hs_ => hs_.2.1) (fun hs_ => hs_.2.1)) (fun hn_ => (Kd.freshB (g := af) (o := .cells #[.int .i64 au, .slice aA ac.length ay, .slice aE ao.length aG, .slice aH aq.length aI] 46 (0, 0)) (zB ae.out) k_ hn_)), Or.elim hk_.1 (fun hs_ => Or.elim hs_ (fun hs_ => hs_.2.2.1) (fun hs_ => hs_.2.2.1)) (fun hn_ => (Kd.freshB (g := ag) (o := .cells #[.int .i64 a1_0, .int .i64 a1_1, .int .i64 a1_2, .int .u32 a1_3, .string a1_4, .int .u64 a1_5, .int .u64 a1_6, .int .i64 a1_7, .int .i64 a1_8] 35 (0, 0)) (zB ah.out) k_ hn_)), Or.elim hk_.1 (fun hs_ => Or.elim hs_ (fun hs_ => hs_.2.2.2) (fun hs_ => hs_.2.2.2)) (fun hn_ => (Kd.freshB (g := ab) (o := .cells #[.int .i64 0, .slice none 0 0, .slice none 0 0, .slice none 0 0] 46 (0, 0)) (zB am.out) k_ hn_))⟩)) (below_size (by repeat (first | (with_reducible first | exact HB.out | apply pA | apply pN | apply pD | refine pS ?_ ar.out | refine pS ?_ az.out | refine pS ?_ aC.out) | exact HB.out)))); have n4_ := Aside0.mk (Kd.R_lower (Kd.R_newM (M := fun k_ => (w.heap.size ≤ k_)) (Kd.R_mono (ok' := fun k_ => True) ho1 (fun _ hk_ => trivial)) (below_size (by repeat (first | (with_reducible first | exact HB.out | apply pA | apply pN | apply pD | refine pS ?_ ar.out | refine pS ?_ az.out | refine pS ?_ aC.out) | exact HB.out))) (fun k_ h_ => h_)) (below_size (by repeat (first | (with_reducible first | exact HB.out | apply pA | apply pN | apply pD | refine pS ?_ ar.out | refine pS ?_ az.out | refine pS ?_ aC.out) | exact HB.out)))); have n5_ := Aside0.mk (Kd.V_lower (Kd.V_mono (ok' := fun k_ => ((av k_ ∨ aw k_ ∨ ax k_) ∨ w.heap.size ≤ k_) ∧ some k_ ≠ (v331 : Value).ownBlock ∧ k_ ≠ af ∧ k_ ≠ ag ∧ k_ ≠ ab) ho2 (fun k_ hk_ => ⟨Or.elim hk_.1 (fun hs_ => Or.elim hs_ (fun hs_ => hs_.1) (fun hs_ => hs_.1)) (fun hn_ => (.inr (Nat.le_trans (below_size (by repeat (first | (with_reducible first | exact HB.out | apply pA | apply pN | apply pD | refine pS ?_ ar.out | refine pS ?_ az.out | refine pS ?_ aC.out) | exact HB.out))) hn_))), hk_.2, Or.elim hk_.1 (fun hs_ => Or.elim hs_ (fun hs_ => hs_.2.1) (fun hs_ => hs_.2.1)) (fun hn_ => (Kd.freshB (g := af) (o := .cells #[.int .i64 au, .slice aA ac.length ay, .slice aE ao.length aG, .slice aH aq.length aI] 46 (0, 0)) (zB ae.out) k_ hn_)), Or.elim hk_.1 (fun hs_ => Or.elim hs_ (fun hs_ => hs_.2.2.1) (fun hs_ => hs_.2.2.1)) (fun hn_ => (Kd.freshB (g := ag) (o := .cells #[.int .i64 a1_0, .int .i64 a1_1, .int .i64 a1_2, .int .u32 a1_3, .string a1_4, .int .u64 a1_5, .int .u64 a1_6, .int .i64 a1_7, .int .i64 a1_8] 35 (0, 0)) (zB ah.out) k_ hn_)), Or.elim hk_.1 (fun hs_ => Or.elim hs_ (fun hs_ => hs_.2.2.2) (fun hs_ => hs_.2.2.2)) (fun hn_ => (Kd.freshB (g := ab) (o := .cells #[.int .i64 0, .slice none 0 0, .slice none 0 0, .slice none 0 0] 46 (0, 0)) (zB am.out) k_ hn_))⟩)) (below_size (by repeat (first | (with_reducible first | exact HB.out | apply pA | apply pN | apply pD | refine pS ?_ ar.out | refine pS ?_ az.out | refine pS ?_ aC.out) | exact HB.out)))); have n6_ := Aside0.mk (blk_below (g := af) (o := .cells #[.int .i64 au, .slice aA ac.length ay, .slice aE ao.length aG, .slice aH aq.length aI] 46 (0, 0)) (zB ae.out) hb); have n7_ := Aside0.mk (blk_below (g := ag) (o := .cells #[.int .i64 a1_0, .int .i64 a1_1, .int .i64 a1_2, .int .u32 a1_3, .string a1_4, .int .u64 a1_5, .int .u64 a1_6, .int .i64 a1_7, .int .i64 a1_8] 35 (0, 0)) (zB ah.out) hb); have n8_ := Aside0.mk (blk_below (g := ab) (o := .cells #[.int .i64 0, .slice none 0 0, .slice none 0 0, .slice none 0 0] 46 (0, 0)) (zB am.out) hb); have n9_ := Aside0.mk (below_step (by repeat (first | (with_reducible first | exact HB.out | apply pA | apply pN | apply pD | refine pS ?_ ar.out | refine pS ?_ az.out | refine pS ?_ aC.out) | exact HB.out)) hb); clear ai; clear aj; clear al; clear ae; clear ah; clear am; clear HB; have ai := n0_; have aj := n1_; have al := n2_; have bl := n3_; have bj := n4_; have bk := n5_; have ae := n6_; have ah := n7_; have am := n8_; have HB := n9_; clear n0_ n1_ n2_ n3_ n4_ n5_ n6_ n7_ n8_ n9_; (try clear hb); (try clear hb2); (try clear hk); (try clear hi); (try clear ho0); (try clear ho1); (try clear ho2)) | ((with_reducible refine gate_dst (N := 7) rfl ?_); refine box_event ?hg (N := 7) ?hd (cs := #[.int .i64 0, .slice none 0 0, .slice none 0 0, .slice none 0 0]) (t := 46) ?hr ?_; (case hd => rfl); (case hg => rfl); (case hr => first | (go_simp; done) | (go_simp; rfl)); intro ak hg w52 hbox hb; have n0_ := Aside0.mk (Kd.V_below (Kd.V_elderB (zV ai.out) ak (Nat.le_of_eq hg.symm)) hb); have n1_ := Aside0.mk (Kd.V_below (Kd.V_elderB (zV aj.out) ak (Nat.le_of_eq hg.symm)) hb); have n2_ := Aside0.mk (Kd.V_below (Kd.V_elderB (zV al.out) ak (Nat.le_of_eq hg.symm)) hb); have n3_ := Aside0.mk (Kd.V_below (Kd.V_elderB (zV bl.out) ak (Nat.le_of_eq hg.symm)) hb); have n4_ := Aside0.mk (Kd.R_below (zR bj.out) hb); have n5_ := Aside0.mk (Kd.V_below (Kd.V_elderB (zV bk.out) ak (Nat.le_of_eq hg.symm)) hb); have n6_ := Aside0.mk (blk_below (g := af) (o := .cells #[.int .i64 au, .slice aA ac.length ay, .slice aE ao.length aG, .slice aH aq.length aI] 46 (0, 0)) (zB ae.out) hb); have n7_ := Aside0.mk (blk_below (g := ag) (o := .cells #[.int .i64 a1_0, .int .i64 a1_1, .int .i64 a1_2, .int .u32 a1_3, .string a1_4, .int .u64 a1_5, .int .u64 a1_6, .int .i64 a1_7, .int .i64 a1_8] 35 (0, 0)) (zB ah.out) hb); have n8_ := Aside0.mk (blk_below (g := ab) (o := .cells #[.int .i64 0, .slice none 0 0, .slice none 0 0, .slice none 0 0] 46 (0, 0)) (zB am.out) hb); have n9_ := Aside0.mk (below_step (by repeat (first | (with_reducible first | exact HB.out | apply pA | apply pN | apply pD | refine pS ?_ ar.out | refine pS ?_ az.out | refine pS ?_ aC.out) | exact HB.out)) hb); have n10_ := Aside0.mk (hbox); have n11_ := Aside0.mk ((by rw [hg]; exact (below_size (by repeat (first | (with_reducible first | exact HB.out | apply pA | apply pN | apply pD | refine pS ?_ ar.out | refine pS ?_ az.out | refine pS ?_ aC.out) | exact HB.out))) : w.heap.size ≤ ak)); have n12_ := Aside0.mk ((by rw [hg]; exact (below_size (by repeat (first | (with_reducible first | exact HB.out | apply pA | apply pN | apply pD | refine pS ?_ ar.out | refine pS ?_ az.out | refine pS ?_ aC.out) | exact HB.out))) : w.heap.size ≤ ak)); have n13_ := Aside0.mk ((by rw [hg]; exact Nat.ne_of_lt (blk_lt (g := af) (o := .cells #[.int .i64 au, .slice aA ac.length ay, .slice aE ao.length aG, .slice aH aq.length aI] 46 (0, 0)) (zB ae.out)) : af ≠ ak)); have n14_ := Aside0.mk ((by rw [hg]; exact Nat.ne_of_gt (blk_lt (g := af) (o := .cells #[.int .i64 au, .slice aA ac.length ay, .slice aE ao.length aG, .slice aH aq.length aI] 46 (0, 0)) (zB ae.out)) : ak ≠ af)); have n15_ := Aside0.mk ((by rw [hg]; exact Nat.ne_of_lt (blk_lt (g := ag) (o := .cells #[.int .i64 a1_0, .int .i64 a1_1, .int .i64 a1_2, .int .u32 a1_3, .string a1_4, .int .u64 a1_5, .int .u64 a1_6, .int .i64 a1_7, .int .i64 a1_8] 35 (0, 0)) (zB ah.out)) : ag ≠ ak)); have n16_ := Aside0.mk ((by rw [hg]; exact Nat.ne_of_gt (blk_lt (g := ag) (o := .cells #[.int .i64 a1_0, .int .i64 a1_1, .int .i64 a1_2, .int .u32 a1_3, .string a1_4, .int .u64 a1_5, .int .u64 a1_6, .int .i64 a1_7, .int .i64 a1_8] 35 (0, 0)) (zB ah.out)) : ak ≠ ag)); have n17_ := Aside0.mk ((by rw [hg]; exact Nat.ne_of_lt (blk_lt (g := ab) (o := .cells #[.int .i64 0, .slice none 0 0, .slice none 0 0, .slice none 0 0] 46 (0, 0)) (zB am.out)) : ab ≠ ak)); have n18_ := Aside0.mk ((by rw [hg]; exact Nat.ne_of_gt (blk_lt (g := ab) (o := .cells #[.int .i64 0, .slice none 0 0, .slice none 0 0, .slice none 0 0] 46 (0, 0)) (zB am.out)) : ak ≠ ab)); clear ai; clear aj; clear al; clear bl; clear bj; clear bk; clear ae; clear ah; clear am; clear HB; have ai := n0_; have aj := n1_; have al := n2_; have bl := n3_; have bj := n4_; have bk := n5_; have ae := n6_; have ah := n7_; have am := n8_; have HB := n9_; have bd := n10_; have jo := n11_; have bG := n12_; have bD := n13_; have b3 := n14_; have bZ := n15_; have b4 := n16_; have bQ := n17_; have b5 := n18_; clear n0_ n1_ n2_ n3_ n4_ n5_ n6_ n7_ n8_ n9_ n10_ n11_ n12_ n13_ n14_ n15_ n16_ n17_ n18_; clear hb hbox hg; have jp := b3.out; have jq := bD.out; have jr := b4.out; have js := bZ.out; have jt := b5.out; have ju := bQ.out; obtain ⟨gY, gZ, g0, g1, g2, g3, g4, g5⟩ := bk4 bd.out; obtain ⟨bp, bq, d2⟩ := Kd.V_slice bl.out; subst d2; obtain ⟨aV, aW, d3⟩ := Kd.R_slice bj.out; subst d3; obtain ⟨br, bs, d4⟩ := Kd.V_slice bk.out; subst d4))
            have n0_ : Aside0 (Kd.V k51 51 ((((w52.setCell ⟨ak, 0, none⟩ (.int .i64 ba)).setCell ⟨ak, 1, none⟩ (.slice bp bn.length bq)).setCell ⟨ak, 2, none⟩ (.slice aV aM.length aW)).setCell ⟨ak, 3, none⟩ (.slice br bg.length bs)) w.heap.size (fun k_ => ((av k_ ∨ aw k_ ∨ ax k_) ∨ w.heap.size ≤ k_) ∧ some k_ ≠ (.slice aV aM.length aW : Value).ownBlock ∧ k_ ≠ af ∧ k_ ≠ ag ∧ k_ ≠ ab ∧ k_ ≠ ak) (.slice aA ac.length ay) ac) := ⟨(fV ai.out (fun k_ hk => (⟨hk, hk.2⟩ : _ ∧ k_ ≠ ak)) (fun _ hk => ⟨hk.1.1.1.1, ⟨hk.1.1.2, ⟨hk.1.1.1.2.1, ⟨hk.1.1.1.2.2.1, ⟨hk.1.1.1.2.2.2, hk.1.2⟩⟩⟩⟩⟩))⟩
            have n1_ : Aside0 (Kd.V k56 56 ((((w52.setCell ⟨ak, 0, none⟩ (.int .i64 ba)).setCell ⟨ak, 1, none⟩ (.slice bp bn.length bq)).setCell ⟨ak, 2, none⟩ (.slice aV aM.length aW)).setCell ⟨ak, 3, none⟩ (.slice br bg.length bs)) w.heap.size (fun k_ => ((av k_ ∨ aw k_ ∨ ax k_) ∨ w.heap.size ≤ k_) ∧ some k_ ≠ (.slice aV aM.length aW : Value).ownBlock ∧ k_ ≠ af ∧ k_ ≠ ag ∧ k_ ≠ ab ∧ k_ ≠ ak) (.slice aE ao.length aG) ao) := ⟨(fV aj.out (fun k_ hk => (⟨hk, hk.2⟩ : _ ∧ k_ ≠ ak)) (fun _ hk => ⟨hk.1.1.1.1, ⟨hk.1.1.2, ⟨hk.1.1.1.2.1, ⟨hk.1.1.1.2.2.1, ⟨hk.1.1.1.2.2.2, hk.1.2⟩⟩⟩⟩⟩))⟩
            have n2_ : Aside0 (Kd.V k68 68 ((((w52.setCell ⟨ak, 0, none⟩ (.int .i64 ba)).setCell ⟨ak, 1, none⟩ (.slice bp bn.length bq)).setCell ⟨ak, 2, none⟩ (.slice aV aM.length aW)).setCell ⟨ak, 3, none⟩ (.slice br bg.length bs)) w.heap.size (fun k_ => ((av k_ ∨ aw k_ ∨ ax k_) ∨ w.heap.size ≤ k_) ∧ some k_ ≠ (.slice aV aM.length aW : Value).ownBlock ∧ k_ ≠ af ∧ k_ ≠ ag ∧ k_ ≠ ab ∧ k_ ≠ ak) (.slice aH aq.length aI) aq) := ⟨(fV al.out (fun k_ hk => (⟨hk, hk.2⟩ : _ ∧ k_ ≠ ak)) (fun _ hk => ⟨hk.1.1.1.1, ⟨hk.1.1.2, ⟨hk.1.1.1.2.1, ⟨hk.1.1.1.2.2.1, ⟨hk.1.1.1.2.2.2, hk.1.2⟩⟩⟩⟩⟩))⟩
            have n3_ : Aside0 (Kd.V k51 51 ((((w52.setCell ⟨ak, 0, none⟩ (.int .i64 ba)).setCell ⟨ak, 1, none⟩ (.slice bp bn.length bq)).setCell ⟨ak, 2, none⟩ (.slice aV aM.length aW)).setCell ⟨ak, 3, none⟩ (.slice br bg.length bs)) w.heap.size (fun k_ => ((av k_ ∨ aw k_ ∨ ax k_) ∨ w.heap.size ≤ k_) ∧ some k_ ≠ (.slice aV aM.length aW : Value).ownBlock ∧ k_ ≠ af ∧ k_ ≠ ag ∧ k_ ≠ ab ∧ k_ ≠ ak) (.slice bp bn.length bq) bn) := ⟨(fV bl.out (fun k_ hk => (⟨hk, hk.2⟩ : _ ∧ k_ ≠ ak)) (fun _ hk => ⟨hk.1.1.1, ⟨hk.1.1.2.1, ⟨hk.1.1.2.2.1, ⟨hk.1.1.2.2.2.1, ⟨hk.1.1.2.2.2.2, hk.1.2⟩⟩⟩⟩⟩))⟩
            have n4_ : Aside0 (Kd.R k56 56 ((((w52.setCell ⟨ak, 0, none⟩ (.int .i64 ba)).setCell ⟨ak, 1, none⟩ (.slice bp bn.length bq)).setCell ⟨ak, 2, none⟩ (.slice aV aM.length aW)).setCell ⟨ak, 3, none⟩ (.slice br bg.length bs)) w.heap.size (fun k_ => (w.heap.size ≤ k_)) (.slice aV aM.length aW) aM) := ⟨zR (Kd.R_mono (Kd.R_far (p := ⟨ak, 3, none⟩) (Kd.R_far (p := ⟨ak, 2, none⟩) (Kd.R_far (p := ⟨ak, 1, none⟩) (Kd.R_far (p := ⟨ak, 0, none⟩) (Kd.R_types bj.out bd.out (by decide)) (fun _ hk => hk.2) (.int .i64 ba)) (fun _ hk => hk.2) (.slice bp bn.length bq)) (fun _ hk => hk.2) (.slice aV aM.length aW)) (fun _ hk => hk.2) (.slice br bg.length bs)) (fun _ hk => hk.1.1))⟩
            have n5_ : Aside0 (Kd.V k68 68 ((((w52.setCell ⟨ak, 0, none⟩ (.int .i64 ba)).setCell ⟨ak, 1, none⟩ (.slice bp bn.length bq)).setCell ⟨ak, 2, none⟩ (.slice aV aM.length aW)).setCell ⟨ak, 3, none⟩ (.slice br bg.length bs)) w.heap.size (fun k_ => ((av k_ ∨ aw k_ ∨ ax k_) ∨ w.heap.size ≤ k_) ∧ some k_ ≠ (.slice aV aM.length aW : Value).ownBlock ∧ k_ ≠ af ∧ k_ ≠ ag ∧ k_ ≠ ab ∧ k_ ≠ ak) (.slice br bg.length bs) bg) := ⟨(fV bk.out (fun k_ hk => (⟨hk, hk.2⟩ : _ ∧ k_ ≠ ak)) (fun _ hk => ⟨hk.1.1.1, ⟨hk.1.1.2.1, ⟨hk.1.1.2.2.1, ⟨hk.1.1.2.2.2.1, ⟨hk.1.1.2.2.2.2, hk.1.2⟩⟩⟩⟩⟩))⟩
            have n6_ : Aside0 (((((w52.setCell ⟨ak, 0, none⟩ (.int .i64 ba)).setCell ⟨ak, 1, none⟩ (.slice bp bn.length bq)).setCell ⟨ak, 2, none⟩ (.slice aV aM.length aW)).setCell ⟨ak, 3, none⟩ (.slice br bg.length bs)).heap[af]? = some (.cells #[.int .i64 au, .slice aA ac.length ay, .slice aE ao.length aG, .slice aH aq.length aI] 46 (0, 0))) := ⟨fB bD.out ae.out⟩
            have n7_ : Aside0 (((((w52.setCell ⟨ak, 0, none⟩ (.int .i64 ba)).setCell ⟨ak, 1, none⟩ (.slice bp bn.length bq)).setCell ⟨ak, 2, none⟩ (.slice aV aM.length aW)).setCell ⟨ak, 3, none⟩ (.slice br bg.length bs)).heap[ag]? = some (.cells #[.int .i64 a1_0, .int .i64 a1_1, .int .i64 a1_2, .int .u32 a1_3, .string a1_4, .int .u64 a1_5, .int .u64 a1_6, .int .i64 a1_7, .int .i64 a1_8] 35 (0, 0))) := ⟨fB bZ.out ah.out⟩
            have n8_ : Aside0 (((((w52.setCell ⟨ak, 0, none⟩ (.int .i64 ba)).setCell ⟨ak, 1, none⟩ (.slice bp bn.length bq)).setCell ⟨ak, 2, none⟩ (.slice aV aM.length aW)).setCell ⟨ak, 3, none⟩ (.slice br bg.length bs)).heap[ab]? = some (.cells #[.int .i64 0, .slice none 0 0, .slice none 0 0, .slice none 0 0] 46 (0, 0))) := ⟨fB bQ.out am.out⟩
            have n9_ : Aside0 (((((w52.setCell ⟨ak, 0, none⟩ (.int .i64 ba)).setCell ⟨ak, 1, none⟩ (.slice bp bn.length bq)).setCell ⟨ak, 2, none⟩ (.slice aV aM.length aW)).setCell ⟨ak, 3, none⟩ (.slice br bg.length bs)).heap[ak]? = some (.cells #[.int .i64 ba, .slice bp bn.length bq, .slice aV aM.length aW, .slice br bg.length bs] 46 (0, 0))) := ⟨by (with_reducible repeat (first | refine qN ?_ _ | refine qD ?_ | refine qA ?_ _)); refine blk_put (cs := #[.int .i64 ba, .slice bp bn.length bq, .slice aV aM.length aW, .slice none 0 0]) ?_ 3 _ rfl; (with_reducible repeat (first | refine qN ?_ _ | refine qD ?_ | refine qA ?_ _)); refine blk_put (cs := #[.int .i64 ba, .slice bp bn.length bq, .slice none 0 0, .slice none 0 0]) ?_ 2 _ rfl; (with_reducible repeat (first | refine qN ?_ _ | refine qD ?_ | refine qA ?_ _)); refine blk_put (cs := #[.int .i64 ba, .slice none 0 0, .slice none 0 0, .slice none 0 0]) ?_ 1 _ rfl; (with_reducible repeat (first | refine qN ?_ _ | refine qD ?_ | refine qA ?_ _)); refine blk_put (cs := #[.int .i64 0, .slice none 0 0, .slice none 0 0, .slice none 0 0]) ?_ 0 _ rfl; (with_reducible repeat (first | refine qN ?_ _ | refine qD ?_ | refine qA ?_ _)); exact bd.out⟩
            have n10_ : Aside0 (Below w.heap.size w ((((w52.setCell ⟨ak, 0, none⟩ (.int .i64 ba)).setCell ⟨ak, 1, none⟩ (.slice bp bn.length bq)).setCell ⟨ak, 2, none⟩ (.slice aV aM.length aW)).setCell ⟨ak, 3, none⟩ (.slice br bg.length bs))) := ⟨by repeat (first | (with_reducible first | exact HB.out | apply pA | apply pN | apply pD | refine pS ?_ ar.out | refine pS ?_ az.out | refine pS ?_ aC.out | refine pS ?_ bG.out) | exact HB.out)⟩
            (try clear ai)
            (try clear aj)
            (try clear al)
            (try clear bl)
            (try clear bj)
            (try clear bk)
            (try clear ae)
            (try clear ah)
            (try clear am)
            (try clear bd)
            (try clear HB)
            generalize ((((w52.setCell ⟨ak, 0, none⟩ (.int .i64 ba)).setCell ⟨ak, 1, none⟩ (.slice bp bn.length bq)).setCell ⟨ak, 2, none⟩ (.slice aV aM.length aW)).setCell ⟨ak, 3, none⟩ (.slice br bg.length bs)) = w60 at n0_ n1_ n2_ n3_ n4_ n5_ n6_ n7_ n8_ n9_ n10_ ⊢
            have ai := n0_
            have aj := n1_
            have al := n2_
            have bl := n3_
            have bj := n4_
            have bk := n5_
            have ae := n6_
            have ah := n7_
            have am := n8_
            have bd := n9_
            have HB := n10_
            clear n0_ n1_ n2_ n3_ n4_ n5_ n6_ n7_ n8_ n9_ n10_
            have n0_ := Aside0.mk (Kd.V_drew ai.out)
            have n1_ := Aside0.mk (Kd.V_drew aj.out)
            have n2_ := Aside0.mk (Kd.V_drew al.out)
            have n3_ := Aside0.mk (Kd.V_drew bl.out)
            have n4_ := Aside0.mk (Kd.R_drew bj.out)
            have n5_ := Aside0.mk (Kd.V_drew bk.out)
            have n6_ := Aside0.mk (qD ae.out)
            have n7_ := Aside0.mk (qD ah.out)
            have n8_ := Aside0.mk (qD am.out)
            have n9_ := Aside0.mk (qD bd.out)
            have n10_ := Aside0.mk (pD HB.out)
            clear ai
            clear aj
            clear al
            clear bl
            clear bj
            clear bk
            clear ae
            clear ah
            clear am
            clear bd
            clear HB
            have ai := n0_
            have aj := n1_
            have al := n2_
            have bl := n3_
            have bj := n4_
            have bk := n5_
            have ae := n6_
            have ah := n7_
            have am := n8_
            have bd := n9_
            have HB := n10_
            clear n0_ n1_ n2_ n3_ n4_ n5_ n6_ n7_ n8_ n9_ n10_
            have q62 : (aa : Int) ≤ ((ac.length : Int) : Int) := of_decide_eq_true (by first | (with_reducible assumption) | assumption)
            obtain ⟨i062, hi062, _, hsz62, _⟩ := info_parts info51
            have hroom62 : ac.length ≤ ay := (Kd.V_reads' ai.out).2.1
            have hC62 : Kd.F k51 _ _ aA ac.length ac := (Kd.V_at (base := w.heap.size) ai.out).2.2
            have hcut62 := cut_to (P := Try.prog) 42 51 .i64 Try.underlying42 hi062 aA ac.length ay aa (of_decide_eq_true (by first | (with_reducible assumption) | assumption)) q62 hroom62
            have hr62 := Kd.F_take (m := (aa : Int).toNat) hC62 (by omega)
            have hy62 : bv.length = (aa : Int).toNat := (by rw [cj.out, List.length_take]; omega)
            rw [← cj.out] at hr62
            rw [← hy62] at hcut62
            have bH := Aside0.mk (show Kd.V k51 51 _ w.heap.size _ (.slice aA bv.length ay) bv from Kd.V_mk (by omega) hr62)
            have HC344 := Aside0.mk (show bv.length ≤ ay from by omega)
            clear hr62 hC62 hroom62 hi062 hsz62
            have KY62 := Aside0.mk hy62
            clear hy62
            replace q62 := eq_true q62
            have q63 : ((ji42) : Int) ≤ ((ac.length : Int) : Int) := of_decide_eq_true (by first | (with_reducible assumption) | assumption)
            obtain ⟨i063, hi063, _, hsz63, _⟩ := info_parts info51
            have hroom63 : ac.length ≤ ay := (Kd.V_reads' ai.out).2.1
            have hC63 : Kd.F k51 _ _ aA ac.length ac := (Kd.V_at (base := w.heap.size) ai.out).2.2
            have q063 : (0 : Int) ≤ ((ji42) : Int) := of_decide_eq_true (by first | (with_reducible assumption) | assumption)
            have hcut63 := cut_from (P := Try.prog) 42 51 .i64 Try.underlying42 hi063 6 hsz63 aA ac.length ay (ji42) q063 q63
            have hr63 := Kd.F_cut (m := ((ji42) : Int).toNat) (c := ay) hC63 (by omega) hroom63
            obtain ⟨d1, hA63⟩ : ∃ A1, A1 = (if ay = ((ji42) : Int).toNat then aA else (aA : Option Addr).map (·.add (((ji42) : Int).toNat * 6))) := ⟨_, rfl⟩
            obtain ⟨c63, hc63⟩ : ∃ c1, c1 = ay - ((ji42) : Int).toNat := ⟨_, rfl⟩
            have hy63 : bf.length = ac.length - ((ji42) : Int).toNat := (by rw [ck.out, List.length_drop] <;> omega)
            rw [show (ac).drop ((ji42) : Int).toNat = bf from ck.out.symm] at hr63
            replace hr63 : Kd.F k51 _ _ d1 bf.length bf := (by rw [hA63]; exact hr63)
            rw [← hy63, ← hA63, ← hc63] at hcut63
            have bI := Aside0.mk (show Kd.V k51 51 _ w.heap.size _ (.slice d1 bf.length c63) bf from Kd.V_mk (by rw [hy63, hc63]; exact Nat.sub_le_sub_right hroom63 _) hr63)
            have HC352 := Aside0.mk (show bf.length ≤ c63 from by rw [hy63, hc63]; exact Nat.sub_le_sub_right hroom63 _)
            clear hr63 hC63 hroom63 hi063 hsz63 hc63
            have KY63 := Aside0.mk hy63
            have KA63 := Aside0.mk hA63
            clear hy63 hA63
            replace q63 := eq_true q63
            refine start_ (n := 14) (S := fun w' => w'.cell? ⟨af, 0, none⟩ = some (.int .i64 au) ∧ w'.cell? ⟨af, 1, none⟩ = some (.slice aA ac.length ay) ∧ w'.cell? ⟨af, 2, none⟩ = some (.slice aE ao.length aG) ∧ w'.cell? ⟨af, 3, none⟩ = some (.slice aH aq.length aI)) (ds := []) #[false, false, false, false, false, false, false, false, false, false, false, false, false, false] (by kernel_rfl) rfl rfl ⟨(blk_cell ae.out 0).trans rfl, (blk_cell ae.out 1).trans rfl, (blk_cell ae.out 2).trans rfl, (blk_cell ae.out 3).trans rfl⟩ (fun hHeld => ?_); refine with_tabW portreeveref04_counted.tab8 portreeveref04_counted.bits8 (fun HT_ HW_ => ?_)
            generalize w60.drew = w61 at ai aj al bl bj bk ae ah am bd HB bH bI hHeld ⊢
            refine pure_ (i := 1) (N := some 53) (v := ?_) (a' := ?_) #[false, true, false, false, false, false, false, false, false, false, false, false, false, false] rfl rfl (any_of HT_.out (by kernel_rfl)) (fun _ _ _ h => h) (Or.inl ⟨by rfl, ?_⟩) ?_ ?_
            rotate_left
            ·intro w'
             go_simp
             with_reducible rfl
            rotate_left
            ·simp only [Act.put, sT, s0, s1, i64_w, i32_w]
             rfl
            refine pure_ (i := 3) (N := some 55) (v := ?_) (a' := ?_) #[false, true, false, true, false, false, false, false, false, false, false, false, false, false] rfl rfl (any_of HT_.out (by kernel_rfl)) (fun _ _ _ h => h) (Or.inl ⟨by rfl, ?_⟩) ?_ ?_
            rotate_left
            ·intro w'
             go_simp
             with_reducible rfl
            rotate_left
            ·simp only [Act.put, sT, s0, s1, i64_w, i32_w]
             rfl
            refine pure_ (i := 6) (N := some 58) (v := ?_) (a' := ?_) #[false, true, false, true, false, false, true, false, false, false, false, false, false, false] rfl rfl (any_of HT_.out (by kernel_rfl)) (fun _ _ _ h => h) (Or.inl ⟨by rfl, ?_⟩) ?_ ?_
            rotate_left
            ·intro w'
             go_simp
             with_reducible rfl
            rotate_left
            ·simp only [Act.put, sT, s0, s1, i64_w, i32_w]
             rfl
            refine pure_ (i := 8) (N := some 60) (v := ?_) (a' := ?_) #[false, true, false, true, false, false, true, false, true, false, false, false, false, false] rfl rfl (any_of HT_.out (by kernel_rfl)) (fun _ _ _ h => h) (Or.inl ⟨by rfl, ?_⟩) ?_ ?_
            rotate_left
            ·intro w'
             go_simp
             with_reducible rfl
            rotate_left
            ·simp only [Act.put, sT, s0, s1, i64_w, i32_w]
             rfl
            refine pure_ (i := 9) (N := some 61) (v := ?_) (a' := ?_) #[false, true, false, true, false, false, true, false, true, true, false, false, false, false] rfl rfl (any_of HT_.out (by kernel_rfl)) (fun _ _ _ h => h) (Or.inl ⟨by rfl, ?_⟩) ?_ ?_
            rotate_left
            ·intro w'
             go_simp
             with_reducible rfl
            rotate_left
            ·simp only [Act.put, sT, s0, s1, i64_w, i32_w]
             rfl
            refine take_ (i := 2) (N := some 54) (v := ?_) (a' := ?_) #[false, true, true, true, false, false, true, false, true, true, false, false, false, false] rfl rfl (take_ofW HT_.out HW_.out (by kernel_rfl)) (fun _ _ _ h => h) (Or.inl ⟨by rfl, ?_⟩) hHeld ?_ ?_
            rotate_left
            ·rintro w' ⟨s0, s1, s2, s3⟩
             go_simp
             with_reducible rfl
            rotate_left
            ·simp only [Act.put, sT, s0, s1, i64_w, i32_w]
             rfl
            refine pure_ (i := 4) (N := some 56) (v := ?_) (a' := ?_) #[false, true, true, true, true, false, true, false, true, true, false, false, false, false] rfl rfl (any_of HT_.out (by kernel_rfl)) (fun _ _ _ h => h) (Or.inl ⟨by rfl, ?_⟩) ?_ ?_
            rotate_left
            ·intro w'
             go_simp
             with_reducible rfl
            rotate_left
            ·simp only [Act.put, sT, s0, s1, i64_w, i32_w]
             rfl
            refine take_ (i := 7) (N := some 59) (v := ?_) (a' := ?_) #[false, true, true, true, true, false, true, true, true, true, false, false, false, false] rfl rfl (take_ofW HT_.out HW_.out (by kernel_rfl)) (fun _ _ _ h => h) (Or.inl ⟨by rfl, ?_⟩) hHeld ?_ ?_
            rotate_left
            ·rintro w' ⟨s0, s1, s2, s3⟩
             go_simp
             with_reducible rfl
            rotate_left
            ·simp only [Act.put, sT, s0, s1, i64_w, i32_w]
             rfl
            refine pure_ (i := 10) (N := some 62) (v := ?_) (a' := ?_) #[false, true, true, true, true, false, true, true, true, true, true, false, false, false] rfl rfl (any_of HT_.out (by kernel_rfl)) (fun _ _ _ h => h) (Or.inl ⟨by rfl, ?_⟩) ?_ ?_
            rotate_left
            ·intro w'
             go_simp
             with_reducible rfl
            rotate_left
            ·simp only [Act.put, sT, s0, s1, i64_w, i32_w]
             rfl
            refine one_ (i := 0) (N := some 52) #[true, true, true, true, true, false, true, true, true, true, true, false, false, false] rfl rfl (one_of HT_.out (by kernel_rfl)) (by decide) (fun K hK => ?_)
            refine Kd.R_lit_step k51 _ 51 ?hg (N := 52) ?hd (xs := ([] : List (S51))) (inner := []) (ok := fun _ => True) (okp := fun _ => True) ?hr ?hp (fun _ hk => hk) trivial (Below.refl _ _) (Nat.le_refl _) (by simp) ?_; (case hd => rfl); (case hg => rfl); (case hr => first | (go_simp; done) | (go_simp; rfl)); (case hp => exact (Reps.none _ _))
            intro v338 w64 ho65 hb hg_ hnew_
            clear hg_ hnew_
            (first | rw [← ci.out] at ho65 | (simp only [Int.reduceToNat] at ho65; rw [← ci.out] at ho65))
            have n0_ := Aside0.mk (Kd.V_elder' (zV ai.out) (Kd.R_base ho65) hb)
            have n1_ := Aside0.mk (Kd.V_elder' (zV aj.out) (Kd.R_base ho65) hb)
            have n2_ := Aside0.mk (Kd.V_elder' (zV al.out) (Kd.R_base ho65) hb)
            have n3_ := Aside0.mk (Kd.V_elder' (zV bl.out) (Kd.R_base ho65) hb)
            have n4_ := Aside0.mk (Kd.R_below (zR bj.out) hb)
            have n5_ := Aside0.mk (Kd.V_elder' (zV bk.out) (Kd.R_base ho65) hb)
            have n6_ := Aside0.mk (Kd.V_elder' (zV bH.out) (Kd.R_base ho65) hb)
            have n7_ := Aside0.mk (Kd.V_elder' (zV bI.out) (Kd.R_base ho65) hb)
            have n8_ := Aside0.mk (Kd.R_lower (Kd.R_newM (M := fun k_ => (w.heap.size ≤ k_)) ho65 (below_size (by repeat (first | (with_reducible first | exact HB.out | apply pA | apply pN | apply pD | refine pS ?_ ar.out | refine pS ?_ az.out | refine pS ?_ aC.out | refine pS ?_ bG.out) | exact HB.out))) (fun k_ h_ => h_)) (below_size (by repeat (first | (with_reducible first | exact HB.out | apply pA | apply pN | apply pD | refine pS ?_ ar.out | refine pS ?_ az.out | refine pS ?_ aC.out | refine pS ?_ bG.out) | exact HB.out))))
            have n9_ := Aside0.mk (blk_below (g := af) (o := .cells #[.int .i64 au, .slice aA ac.length ay, .slice aE ao.length aG, .slice aH aq.length aI] 46 (0, 0)) (zB ae.out) hb)
            have n10_ := Aside0.mk (blk_below (g := ag) (o := .cells #[.int .i64 a1_0, .int .i64 a1_1, .int .i64 a1_2, .int .u32 a1_3, .string a1_4, .int .u64 a1_5, .int .u64 a1_6, .int .i64 a1_7, .int .i64 a1_8] 35 (0, 0)) (zB ah.out) hb)
            have n11_ := Aside0.mk (blk_below (g := ab) (o := .cells #[.int .i64 0, .slice none 0 0, .slice none 0 0, .slice none 0 0] 46 (0, 0)) (zB am.out) hb)
            have n12_ := Aside0.mk (blk_below (g := ak) (o := .cells #[.int .i64 ba, .slice bp bn.length bq, .slice aV aM.length aW, .slice br bg.length bs] 46 (0, 0)) (zB bd.out) hb)
            have n13_ := Aside0.mk (below_step (by repeat (first | (with_reducible first | exact HB.out | apply pA | apply pN | apply pD | refine pS ?_ ar.out | refine pS ?_ az.out | refine pS ?_ aC.out | refine pS ?_ bG.out) | exact HB.out)) hb)
            clear ai
            clear aj
            clear al
            clear bl
            clear bj
            clear bk
            clear bH
            clear bI
            clear ae
            clear ah
            clear am
            clear bd
            clear HB
            have ai := n0_
            have aj := n1_
            have al := n2_
            have bl := n3_
            have bj := n4_
            have bk := n5_
            have bH := n6_
            have bI := n7_
            have bV := n8_
            have ae := n9_
            have ah := n10_
            have am := n11_
            have bd := n12_
            have HB := n13_
            clear n0_ n1_ n2_ n3_ n4_ n5_ n6_ n7_ n8_ n9_ n10_ n11_ n12_ n13_
            clear hb ho65
            refine hK.out _ _ ⟨(blk_cell ae.out 0).trans rfl, (blk_cell ae.out 1).trans rfl, (blk_cell ae.out 2).trans rfl, (blk_cell ae.out 3).trans rfl⟩ (fun hHeld => ?_)
            clear hK K
            refine norm_ (a' := ?_) ?_ ?_
            rotate_left
            ·show Act.put _ (some 52) _ = _
             simp only [Act.put, sT, s0, s1, i64_w, i32_w]
             rfl
            refine one_ (i := 5) (N := some 57) #[true, true, true, true, true, true, true, true, true, true, true, false, false, false] rfl rfl (one_of HT_.out (by kernel_rfl)) (by decide) (fun K hK => ?_)
            refine Kd.R_append_rows_step k51 (w0 := w) w.heap.size (by rfl) (.tmp 52) (.tmp 56) 42 51 (.agg #[(.int .i64 0), (.int .i64 0), (.int .u32 0), (.string ⟨#[]⟩), (.int .u64 0), (.int .u64 0)]) 56 rfl Try.underlying42 info51 rfl (by decide) (by omega) v338 bJ bv _ _ _ (fun k_ => (w.heap.size ≤ k_)) (fun _ => False) rfl rfl ?aO ?aR (fun _ _ h => h) (fun _ h => h.elim) ?aF ?aB ?aS ?aL ?_
            (case aR => repeat (first | exact (Kd.V_reads' bH.out).2.2 | (with_reducible refine Kd.C_alloc ?_ _) | (with_reducible refine Kd.C_drewN ?_ _) | (with_reducible refine Kd.C_drew ?_)))
            (case aB => exact (by repeat (first | (with_reducible first | exact HB.out | apply pA | apply pN | apply pD | refine pS ?_ ar.out | refine pS ?_ az.out | refine pS ?_ aC.out | refine pS ?_ bG.out) | exact HB.out)))
            (case aF => exact (fun k_ hk => (Nat.le_trans (below_size (by repeat (first | (with_reducible first | exact HB.out | apply pA | apply pN | apply pD | refine pS ?_ ar.out | refine pS ?_ az.out | refine pS ?_ aC.out | refine pS ?_ bG.out) | exact HB.out))) hk)))
            (case aO => exact (zR (Kd.R_mono bV.out (fun _ hk => hk.1))))
            (case aS => exact (below_size (by repeat (first | (with_reducible first | exact HB.out | apply pA | apply pN | apply pD | refine pS ?_ ar.out | refine pS ?_ az.out | refine pS ?_ aC.out | refine pS ?_ bG.out) | exact HB.out))))
            (case aL => have := dQ.out; omega)
            intro v346 w66 ho hb hg hat
            rw [← dR.out] at ho
            have n0_ := Aside0.mk (Kd.V_afterv (ok := (fun k_ => ((av k_ ∨ aw k_ ∨ ax k_) ∨ w.heap.size ≤ k_) ∧ some k_ ≠ (.slice aV aM.length aW : Value).ownBlock ∧ k_ ≠ af ∧ k_ ≠ ag ∧ k_ ≠ ab ∧ k_ ≠ ak)) (zV ai.out) hg hat)
            have n1_ := Aside0.mk (Kd.V_afterv (ok := (fun k_ => ((av k_ ∨ aw k_ ∨ ax k_) ∨ w.heap.size ≤ k_) ∧ some k_ ≠ (.slice aV aM.length aW : Value).ownBlock ∧ k_ ≠ af ∧ k_ ≠ ag ∧ k_ ≠ ab ∧ k_ ≠ ak)) (zV aj.out) hg hat)
            have n2_ := Aside0.mk (Kd.V_afterv (ok := (fun k_ => ((av k_ ∨ aw k_ ∨ ax k_) ∨ w.heap.size ≤ k_) ∧ some k_ ≠ (.slice aV aM.length aW : Value).ownBlock ∧ k_ ≠ af ∧ k_ ≠ ag ∧ k_ ≠ ab ∧ k_ ≠ ak)) (zV al.out) hg hat)
            have n3_ := Aside0.mk (blk_grown (g := af) (o := .cells #[.int .i64 au, .slice aA ac.length ay, .slice aE ao.length aG, .slice aH aq.length aI] 46 (0, 0)) (zB ae.out) hg (Kd.R_ne bV.out ae.out (by decide)))
            have n4_ := Aside0.mk (blk_grown (g := ag) (o := .cells #[.int .i64 a1_0, .int .i64 a1_1, .int .i64 a1_2, .int .u32 a1_3, .string a1_4, .int .u64 a1_5, .int .u64 a1_6, .int .i64 a1_7, .int .i64 a1_8] 35 (0, 0)) (zB ah.out) hg (Kd.R_ne bV.out ah.out (by decide)))
            have n5_ := Aside0.mk (blk_grown (g := ab) (o := .cells #[.int .i64 0, .slice none 0 0, .slice none 0 0, .slice none 0 0] 46 (0, 0)) (zB am.out) hg (Kd.R_ne bV.out am.out (by decide)))
            have n6_ := Aside0.mk (Kd.V_afterv (ok := (fun k_ => ((av k_ ∨ aw k_ ∨ ax k_) ∨ w.heap.size ≤ k_) ∧ some k_ ≠ (.slice aV aM.length aW : Value).ownBlock ∧ k_ ≠ af ∧ k_ ≠ ag ∧ k_ ≠ ab ∧ k_ ≠ ak)) (zV bl.out) hg hat)
            have n7_ := Aside0.mk (Kd.R_over' (zR bj.out) (Kd.R_typed (zR bV.out)) (by decide) hg)
            have n8_ := Aside0.mk (Kd.V_afterv (ok := (fun k_ => ((av k_ ∨ aw k_ ∨ ax k_) ∨ w.heap.size ≤ k_) ∧ some k_ ≠ (.slice aV aM.length aW : Value).ownBlock ∧ k_ ≠ af ∧ k_ ≠ ag ∧ k_ ≠ ab ∧ k_ ≠ ak)) (zV bk.out) hg hat)
            have n9_ := Aside0.mk (blk_grown (g := ak) (o := .cells #[.int .i64 ba, .slice bp bn.length bq, .slice aV aM.length aW, .slice br bg.length bs] 46 (0, 0)) (zB bd.out) hg (Kd.R_ne bV.out bd.out (by decide)))
            have n10_ := Aside0.mk (Kd.V_afterv (ok := (fun k_ => ((av k_ ∨ aw k_ ∨ ax k_) ∨ w.heap.size ≤ k_) ∧ some k_ ≠ (.slice aV aM.length aW : Value).ownBlock ∧ k_ ≠ af ∧ k_ ≠ ag ∧ k_ ≠ ab ∧ k_ ≠ ak)) (zV bH.out) hg hat)
            have n11_ := Aside0.mk (Kd.V_afterv (ok := (fun k_ => ((av k_ ∨ aw k_ ∨ ax k_) ∨ w.heap.size ≤ k_) ∧ some k_ ≠ (.slice aV aM.length aW : Value).ownBlock ∧ k_ ≠ af ∧ k_ ≠ ag ∧ k_ ≠ ab ∧ k_ ≠ ak)) (zV bI.out) hg hat)
            have n12_ := Aside0.mk (hb)
            have n13_ := Aside0.mk (ho)
            clear ai
            clear aj
            clear al
            clear ae
            clear ah
            clear am
            clear bl
            clear bj
            clear bk
            clear bd
            clear bH
            clear bI
            clear HB
            clear bV
            have ai := n0_
            have aj := n1_
            have al := n2_
            have ae := n3_
            have ah := n4_
            have am := n5_
            have bl := n6_
            have bj := n7_
            have bk := n8_
            have bd := n9_
            have bH := n10_
            have bI := n11_
            have HB := n12_
            have bW := n13_
            clear n0_ n1_ n2_ n3_ n4_ n5_ n6_ n7_ n8_ n9_ n10_ n11_ n12_ n13_
            clear ho hb hg hat
            refine hK.out _ _ ⟨(blk_cell ae.out 0).trans rfl, (blk_cell ae.out 1).trans rfl, (blk_cell ae.out 2).trans rfl, (blk_cell ae.out 3).trans rfl⟩ (fun hHeld => ?_)
            clear hK K
            refine norm_ (a' := ?_) ?_ ?_
            rotate_left
            ·show Act.put _ (some 57) _ = _
             simp only [Act.put, sT, s0, s1, i64_w, i32_w]
             rfl
            refine one_ (i := 11) (N := some 63) #[true, true, true, true, true, true, true, true, true, true, true, true, false, false] rfl rfl (one_of HT_.out (by kernel_rfl)) (by decide) (fun K hK => ?_)
            refine Kd.R_append_rows_step k51 (w0 := w) w.heap.size (by rfl) (.tmp 57) (.tmp 62) 42 51 (.agg #[(.int .i64 0), (.int .i64 0), (.int .u32 0), (.string ⟨#[]⟩), (.int .u64 0), (.int .u64 0)]) 56 rfl Try.underlying42 info51 rfl (by decide) (by omega) v346 bo bf _ _ _ (fun k_ => (w.heap.size ≤ k_)) (fun _ => False) rfl rfl ?aO ?aR (fun _ _ h => h) (fun _ h => h.elim) ?aF ?aB ?aS ?aL ?_
            (case aR => repeat (first | exact (Kd.V_reads' bI.out).2.2 | (with_reducible refine Kd.C_alloc ?_ _) | (with_reducible refine Kd.C_drewN ?_ _) | (with_reducible refine Kd.C_drew ?_)))
            (case aB => exact (by repeat (first | (with_reducible first | exact HB.out | apply pA | apply pN | apply pD | refine pS ?_ ar.out | refine pS ?_ az.out | refine pS ?_ aC.out | refine pS ?_ bG.out) | exact HB.out)))
            (case aF => exact (fun k_ hk => (Nat.le_trans (below_size (by repeat (first | (with_reducible first | exact HB.out | apply pA | apply pN | apply pD | refine pS ?_ ar.out | refine pS ?_ az.out | refine pS ?_ aC.out | refine pS ?_ bG.out) | exact HB.out))) hk)))
            (case aO => exact (zR bW.out))
            (case aS => exact (below_size (by repeat (first | (with_reducible first | exact HB.out | apply pA | apply pN | apply pD | refine pS ?_ ar.out | refine pS ?_ az.out | refine pS ?_ aC.out | refine pS ?_ bG.out) | exact HB.out))))
            (case aL => have := dS.out; omega)
            intro v354 w67 ho hb hg hat
            rw [← dT.out] at ho
            have n0_ := Aside0.mk (Kd.V_afterv (ok := (fun k_ => ((av k_ ∨ aw k_ ∨ ax k_) ∨ w.heap.size ≤ k_) ∧ some k_ ≠ (.slice aV aM.length aW : Value).ownBlock ∧ k_ ≠ af ∧ k_ ≠ ag ∧ k_ ≠ ab ∧ k_ ≠ ak)) (zV ai.out) hg hat)
            have n1_ := Aside0.mk (Kd.V_afterv (ok := (fun k_ => ((av k_ ∨ aw k_ ∨ ax k_) ∨ w.heap.size ≤ k_) ∧ some k_ ≠ (.slice aV aM.length aW : Value).ownBlock ∧ k_ ≠ af ∧ k_ ≠ ag ∧ k_ ≠ ab ∧ k_ ≠ ak)) (zV aj.out) hg hat)
            have n2_ := Aside0.mk (Kd.V_afterv (ok := (fun k_ => ((av k_ ∨ aw k_ ∨ ax k_) ∨ w.heap.size ≤ k_) ∧ some k_ ≠ (.slice aV aM.length aW : Value).ownBlock ∧ k_ ≠ af ∧ k_ ≠ ag ∧ k_ ≠ ab ∧ k_ ≠ ak)) (zV al.out) hg hat)
            have n3_ := Aside0.mk (blk_grown (g := af) (o := .cells #[.int .i64 au, .slice aA ac.length ay, .slice aE ao.length aG, .slice aH aq.length aI] 46 (0, 0)) (zB ae.out) hg (Kd.R_ne bW.out ae.out (by decide)))
            have n4_ := Aside0.mk (blk_grown (g := ag) (o := .cells #[.int .i64 a1_0, .int .i64 a1_1, .int .i64 a1_2, .int .u32 a1_3, .string a1_4, .int .u64 a1_5, .int .u64 a1_6, .int .i64 a1_7, .int .i64 a1_8] 35 (0, 0)) (zB ah.out) hg (Kd.R_ne bW.out ah.out (by decide)))
            have n5_ := Aside0.mk (blk_grown (g := ab) (o := .cells #[.int .i64 0, .slice none 0 0, .slice none 0 0, .slice none 0 0] 46 (0, 0)) (zB am.out) hg (Kd.R_ne bW.out am.out (by decide)))
            have n6_ := Aside0.mk (Kd.V_afterv (ok := (fun k_ => ((av k_ ∨ aw k_ ∨ ax k_) ∨ w.heap.size ≤ k_) ∧ some k_ ≠ (.slice aV aM.length aW : Value).ownBlock ∧ k_ ≠ af ∧ k_ ≠ ag ∧ k_ ≠ ab ∧ k_ ≠ ak)) (zV bl.out) hg hat)
            have n7_ := Aside0.mk (Kd.R_over' (zR bj.out) (Kd.R_typed (zR bW.out)) (by decide) hg)
            have n8_ := Aside0.mk (Kd.V_afterv (ok := (fun k_ => ((av k_ ∨ aw k_ ∨ ax k_) ∨ w.heap.size ≤ k_) ∧ some k_ ≠ (.slice aV aM.length aW : Value).ownBlock ∧ k_ ≠ af ∧ k_ ≠ ag ∧ k_ ≠ ab ∧ k_ ≠ ak)) (zV bk.out) hg hat)
            have n9_ := Aside0.mk (blk_grown (g := ak) (o := .cells #[.int .i64 ba, .slice bp bn.length bq, .slice aV aM.length aW, .slice br bg.length bs] 46 (0, 0)) (zB bd.out) hg (Kd.R_ne bW.out bd.out (by decide)))
            have n10_ := Aside0.mk (Kd.V_afterv (ok := (fun k_ => ((av k_ ∨ aw k_ ∨ ax k_) ∨ w.heap.size ≤ k_) ∧ some k_ ≠ (.slice aV aM.length aW : Value).ownBlock ∧ k_ ≠ af ∧ k_ ≠ ag ∧ k_ ≠ ab ∧ k_ ≠ ak)) (zV bH.out) hg hat)
            have n11_ := Aside0.mk (Kd.V_afterv (ok := (fun k_ => ((av k_ ∨ aw k_ ∨ ax k_) ∨ w.heap.size ≤ k_) ∧ some k_ ≠ (.slice aV aM.length aW : Value).ownBlock ∧ k_ ≠ af ∧ k_ ≠ ag ∧ k_ ≠ ab ∧ k_ ≠ ak)) (zV bI.out) hg hat)
            have n12_ := Aside0.mk (hb)
            have n13_ := Aside0.mk (ho)
            clear ai
            clear aj
            clear al
            clear ae
            clear ah
            clear am
            clear bl
            clear bj
            clear bk
            clear bd
            clear bH
            clear bI
            clear HB
            clear bW
            have ai := n0_
            have aj := n1_
            have al := n2_
            have ae := n3_
            have ah := n4_
            have am := n5_
            have bl := n6_
            have bj := n7_
            have bk := n8_
            have bd := n9_
            have bH := n10_
            have bI := n11_
            have HB := n12_
            have cl := n13_
            clear n0_ n1_ n2_ n3_ n4_ n5_ n6_ n7_ n8_ n9_ n10_ n11_ n12_ n13_
            clear ho hb hg hat
            obtain ⟨b0, b1, dE⟩ := Kd.R_slice cl.out
            (first | subst dE | (injection dE with f1_ f2_ f3_; have f4_ := f1_.symm; have f5_ := f3_.symm; clear f1_ f2_ f3_; subst f4_; subst f5_))
            refine hK.out _ _ ⟨(blk_cell ae.out 0).trans rfl, (blk_cell ae.out 1).trans rfl, (blk_cell ae.out 2).trans rfl, (blk_cell ae.out 3).trans rfl⟩ (fun hHeld => ?_)
            clear hK K
            refine norm_ (a' := ?_) ?_ ?_
            rotate_left
            ·show Act.put _ (some 63) _ = _
             simp only [Act.put, sT, s0, s1, i64_w, i32_w]
             rfl
            refine pure_ (i := 12) (N := some 64) (v := ?_) (a' := ?_) #[true, true, true, true, true, true, true, true, true, true, true, true, true, false] rfl rfl (any_of HT_.out (by kernel_rfl)) (fun _ _ _ h => h) (Or.inl ⟨by rfl, ?_⟩) ?_ ?_
            rotate_left
            ·intro w'
             go_simp
             with_reducible rfl
            rotate_left
            ·simp only [Act.put, sT, s0, s1, i64_w, i32_w]
             rfl
            refine one_ (i := 13) (N := none) #[true, true, true, true, true, true, true, true, true, true, true, true, true, true] rfl rfl (one_of HT_.out (by kernel_rfl)) (by decide) (fun K hK => ?_)
            have hs69 : w67.cell? ⟨ak, 1, none⟩ = some (.slice bp bn.length bq) := (blk_cell bd.out 1).trans rfl
            have hfs69 := blk_frozen bd.out 1
            have hns69_0 := bD.out
            have hns69_1 := bZ.out
            have hns69_2 := bQ.out
            have hms69_0 := b3.out
            have hms69_1 := b4.out
            have hms69_2 := b5.out
            refine skip_ (w1 := ?_) (by rfl) rfl ?_ ?_
            rotate_left
            ·go_simp
             rfl
            refine hK.out _ _ ⟨(fC bD.out hHeld.1), (fC bD.out hHeld.2.1), (fC bD.out hHeld.2.2.1), (fC bD.out hHeld.2.2.2)⟩ (fun hHeld => ?_)
            clear hK K
            refine done_ (done_of HT_.out (by kernel_rfl)) ?_
            obtain ⟨g6, g7, g8, g9, ha, hf, hh, hj⟩ := bk4 bd.out
            obtain ⟨hl, hq, ht, hu, hv, hz, hA, hB⟩ := bk4 am.out
            try go_wp2
            refine bodyPost_ret (results_ct rfl _ _ ab 46 #[.int .i64 ba, .slice b0 bY.length b1, .slice aV aM.length aW, .slice br bg.length bs] (0, 0) _ rfl (by (with_reducible repeat (first | refine qN ?_ _ | refine qD ?_ | refine qA ?_ _)); refine blk_put (cs := #[.int .i64 ba, .slice b0 bY.length b1, .slice aV aM.length aW, .slice none 0 0]) ?_ 3 _ rfl; (with_reducible repeat (first | refine qN ?_ _ | refine qD ?_ | refine qA ?_ _)); refine blk_put (cs := #[.int .i64 ba, .slice b0 bY.length b1, .slice none 0 0, .slice none 0 0]) ?_ 2 _ rfl; (with_reducible repeat (first | refine qN ?_ _ | refine qD ?_ | refine qA ?_ _)); refine blk_put (cs := #[.int .i64 ba, .slice none 0 0, .slice none 0 0, .slice none 0 0]) ?_ 1 _ rfl; (with_reducible repeat (first | refine qN ?_ _ | refine qD ?_ | refine qA ?_ _)); refine blk_put (cs := #[.int .i64 0, .slice none 0 0, .slice none 0 0, .slice none 0 0]) ?_ 0 _ rfl; (with_reducible repeat (first | refine qN ?_ _ | refine qD ?_ | refine qA ?_ _)); refine blk_far ?_ bQ.out _; (with_reducible repeat (first | refine qN ?_ _ | refine qD ?_ | refine qA ?_ _)); exact am.out) Try.underlying46 rfl (by kernel_rfl)) rfl ?_
            exact ⟨_, _, _, by first | rfl | (simp [errW_none, errW_some] <;> rfl) | (simp only [← hji42]; first | rfl | (simp [errW_none, errW_some] <;> rfl)) | (simp [*, errW_none, errW_some] <;> rfl), Kd.V_mono (Kd.R_V (zR (Kd.R_mono (Kd.R_far (p := ⟨ab, 3, none⟩) (Kd.R_far (p := ⟨ab, 2, none⟩) (Kd.R_far (p := ⟨ab, 1, none⟩) (Kd.R_far (p := ⟨ab, 0, none⟩) (Kd.R_far (p := ⟨ak, 1, none⟩) (Kd.R_types (Kd.R_types cl.out bd.out (by decide)) am.out (by decide)) (fun _ hk => hk.1.2) (.slice b0 bY.length b1)) (fun _ hk => hk.2) (.int .i64 ba)) (fun _ hk => hk.2) (.slice b0 bY.length b1)) (fun _ hk => hk.2) (.slice aV aM.length aW)) (fun _ hk => hk.2) (.slice br bg.length bs)) (fun _ hk => hk.1.1)))) (fun k_ hk => by first | exact ⟨(.inr (hk.1)), hk.2⟩ | exact (.inr (hk))), Kd.V_mono (Kd.R_V (zR (Kd.R_mono (Kd.R_far (p := ⟨ab, 3, none⟩) (Kd.R_far (p := ⟨ab, 2, none⟩) (Kd.R_far (p := ⟨ab, 1, none⟩) (Kd.R_far (p := ⟨ab, 0, none⟩) (Kd.R_far (p := ⟨ak, 1, none⟩) (Kd.R_types (Kd.R_types bj.out bd.out (by decide)) am.out (by decide)) (fun _ hk => hk.1.2) (.slice b0 bY.length b1)) (fun _ hk => hk.2) (.int .i64 ba)) (fun _ hk => hk.2) (.slice b0 bY.length b1)) (fun _ hk => hk.2) (.slice aV aM.length aW)) (fun _ hk => hk.2) (.slice br bg.length bs)) (fun _ hk => hk.1.1)))) (fun k_ hk => by first | exact ⟨(.inr (hk.1)), hk.2⟩ | exact (.inr (hk))), (fV2 bk.out (fun k_ hk => (⟨hk, hk.1.2.2.2.2.2⟩ : _ ∧ k_ ≠ ak)) (fun k_ hk => (⟨hk, hk.1.1.2.2.2.2.1⟩ : _ ∧ k_ ≠ ab)) (fun _ hk => hk.1.1.1.1)), by repeat (first | (with_reducible first | exact HB.out | apply pA | apply pN | apply pD | refine pS ?_ ar.out | refine pS ?_ az.out | refine pS ?_ aC.out | refine pS ?_ bG.out) | exact HB.out)⟩
           ·rw [if_neg c45] at H
            exact absurd H (by simp)
          ·rw [if_neg c44] at H
           exact absurd H (by simp)
         ·rw [if_neg c43] at H
          exact absurd H (by simp)
        ·rw [if_neg c41] at H
         exact absurd H (by simp)
       ·rw [if_neg c40] at H
        exact absurd H (by simp)
      ·rw [if_neg c39] at H
       exact absurd H (by simp)
     ·rw [if_neg c37] at H
      have dO : (a1_0 == 3) = false := beq_eq_false_iff_ne.mpr c37
      have dP : (a1_0 != 3) = true := bne_iff_ne.mpr c37
      by_cases c72 : (wrap64 ((wrap64 ((ao.length : Int) + (ac.length : Int))) + 1)) > 60
      ·rw [if_pos c72] at H
       have dU : decide (60 < (wrap64 ((wrap64 ((ao.length : Int) + (ac.length : Int))) + 1))) = true := decide_eq_true c72
       clear c72
       simp only [Option.some.injEq, Prod.mk.injEq] at H
       obtain ⟨rfl, rfl, rfl, rfl, rfl⟩ := H
       have jv := bx.out
       have jw := bw.out
       have jx := bB.out
       have jy := bC.out
       obtain ⟨hC, hD, hE, hF, hG, hH, hI, hJ, hL, hM, hN, hO, hP, hQ, hR, hS, hT, hU⟩ := bk9 ah.out
       have jz := bz.out
       have jA := bA.out
       obtain ⟨hV, hW, hX, hY, hZ, h0, h1, h2⟩ := bk4 ae.out
       obtain ⟨h3, h4, h5, h6, h7, h8, h9, ia⟩ := bk4 am.out
       go_wp2
       refine bodyPost_ret (results_ct rfl _ _ ab 46 #[.int .i64 au, .slice aA ac.length ay, .slice aE ao.length aG, .slice aH aq.length aI] (0, 0) _ rfl (by (with_reducible repeat (first | refine qN ?_ _ | refine qD ?_ | refine qA ?_ _)); refine blk_put (cs := #[.int .i64 au, .slice aA ac.length ay, .slice aE ao.length aG, .slice none 0 0]) ?_ 3 _ rfl; (with_reducible repeat (first | refine qN ?_ _ | refine qD ?_ | refine qA ?_ _)); refine blk_put (cs := #[.int .i64 au, .slice aA ac.length ay, .slice none 0 0, .slice none 0 0]) ?_ 2 _ rfl; (with_reducible repeat (first | refine qN ?_ _ | refine qD ?_ | refine qA ?_ _)); refine blk_put (cs := #[.int .i64 au, .slice none 0 0, .slice none 0 0, .slice none 0 0]) ?_ 1 _ rfl; (with_reducible repeat (first | refine qN ?_ _ | refine qD ?_ | refine qA ?_ _)); refine blk_put (cs := #[.int .i64 0, .slice none 0 0, .slice none 0 0, .slice none 0 0]) ?_ 0 _ rfl; (with_reducible repeat (first | refine qN ?_ _ | refine qD ?_ | refine qA ?_ _)); exact am.out) Try.underlying46 rfl (by kernel_rfl)) rfl ?_
       exact ⟨_, _, _, by first | rfl | (simp [errW_none, errW_some] <;> rfl) | (simp [*, errW_none, errW_some] <;> rfl), (fV ai.out (fun k_ hk => (⟨hk, hk.2.2.2⟩ : _ ∧ k_ ≠ ab)) (fun _ hk => hk.1.1)), (fV aj.out (fun k_ hk => (⟨hk, hk.2.2.2⟩ : _ ∧ k_ ≠ ab)) (fun _ hk => hk.1.1)), (fV al.out (fun k_ hk => (⟨hk, hk.2.2.2⟩ : _ ∧ k_ ≠ ab)) (fun _ hk => hk.1.1)), by repeat (first | (with_reducible first | exact HB.out | apply pA | apply pN | apply pD | refine pS ?_ ar.out | refine pS ?_ az.out | refine pS ?_ aC.out) | exact HB.out)⟩
      ·rw [if_neg c72] at H
       have dU : decide (60 < (wrap64 ((wrap64 ((ao.length : Int) + (ac.length : Int))) + 1))) = false := decide_eq_false c72
       clear c72
       replace H := Option.bind_eq_some_iff.mp H
       obtain ⟨⟨bh, bF, aJ, bi⟩, dF, H⟩ := H
       replace H : ((some (([] : List (S51)) : List (S51))).bind fun bN => (if bN.length + ac.length < 2513169434916 then ((some (bN ++ ac : List (S51))).bind fun ad => (if 0 ≤ aa then (if aa < (ad.length : Int) then (some (bh, (ad.set (aa : Int).toNat (⟨(rd_T51 ad aa).f0, (rd_T51 ad aa).f1, (rd_T51 ad aa).f2, (rd_T51 ad aa).f3, a1_5, a1_6⟩ : S51)), aJ, bi, 0)) else (none)) else (none))) else (none))) = some (r1, r2, r3, r4, r5) := H
       have iN := Aside0.mk dF
       clear dF
       obtain ⟨bN, hy367⟩ : ∃ y_ : List (S51), y_ = (([] : List (S51))) := ⟨_, rfl⟩
       replace H : (if bN.length + ac.length < 2513169434916 then ((some (bN ++ ac : List (S51))).bind fun ad => (if 0 ≤ aa then (if aa < (ad.length : Int) then (some (bh, (ad.set (aa : Int).toNat (⟨(rd_T51 ad aa).f0, (rd_T51 ad aa).f1, (rd_T51 ad aa).f2, (rd_T51 ad aa).f3, a1_5, a1_6⟩ : S51)), aJ, bi, 0)) else (none)) else (none))) else (none)) = some (r1, r2, r3, r4, r5) := by first | (rw [hy367]; with_reducible exact H) | (have H2_ := (Option.bind_some _ _).symm.trans H; rw [hy367]; with_reducible exact H2_) | (have H2_ := (Option.bind_some _ _).symm.trans H; with_reducible exact H2_) | with_reducible exact H | (rw [hy367]; exact H) | exact H
       have cm := Aside0.mk hy367
       clear hy367
       by_cases c80 : bN.length + ac.length < 2513169434916
       ·rw [if_pos c80] at H
        have dV := Aside0.mk c80
        clear c80
        obtain ⟨ad, hy370⟩ : ∃ y_ : List (S51), y_ = (bN ++ ac) := ⟨_, rfl⟩
        replace H : (if 0 ≤ aa then (if aa < (ad.length : Int) then (some (bh, (ad.set (aa : Int).toNat (⟨(rd_T51 ad aa).f0, (rd_T51 ad aa).f1, (rd_T51 ad aa).f2, (rd_T51 ad aa).f3, a1_5, a1_6⟩ : S51)), aJ, bi, 0)) else (none)) else (none)) = some (r1, r2, r3, r4, r5) := by first | (rw [hy370]; with_reducible exact H) | (have H2_ := (Option.bind_some _ _).symm.trans H; rw [hy370]; with_reducible exact H2_) | (have H2_ := (Option.bind_some _ _).symm.trans H; with_reducible exact H2_) | with_reducible exact H | (rw [hy370]; exact H) | exact H
        have dW := Aside0.mk hy370
        clear hy370
        by_cases c81 : 0 ≤ aa
        ·rw [if_pos c81] at H
         have jB : decide (0 ≤ aa) = true := decide_eq_true c81
         clear c81
         by_cases c82 : aa < (ad.length : Int)
         ·rw [if_pos c82] at H
          have jC : decide (aa < (ad.length : Int)) = true := decide_eq_true c82
          clear c82
          obtain ⟨dG, hy375⟩ : ∃ y_ : List (S51), y_ = (ad.set (aa : Int).toNat (⟨(rd_T51 ad aa).f0, (rd_T51 ad aa).f1, (rd_T51 ad aa).f2, (rd_T51 ad aa).f3, a1_5, a1_6⟩ : S51)) := ⟨_, rfl⟩
          replace H : (some (bh, dG, aJ, bi, 0)) = some (r1, r2, r3, r4, r5) := by first | (rw [hy375]; with_reducible exact H) | (have H2_ := (Option.bind_some _ _).symm.trans H; rw [hy375]; with_reducible exact H2_) | (have H2_ := (Option.bind_some _ _).symm.trans H; with_reducible exact H2_) | with_reducible exact H | (rw [hy375]; exact H) | exact H
          have dX := Aside0.mk hy375
          clear hy375
          simp only [Option.some.injEq, Prod.mk.injEq] at H
          obtain ⟨rfl, rfl, rfl, rfl, rfl⟩ := H
          have jD := bx.out
          have jE := bw.out
          have jF := bB.out
          have jG := bC.out
          obtain ⟨ib, ic, ie, ig, ih, ii, ij, ik, il, im, io, ip, iq, ir, it, iu, iv, iw⟩ := bk9 ah.out
          have jH := bz.out
          have jI := bA.out
          obtain ⟨ix, iy, iz, iA, iB, iC, iD, iE⟩ := bk4 ae.out
          go_wp2_with (first | ((with_reducible refine gate_callee (f := 37) rfl ?_); refine goesL_ (some 84) rfl rfl Try.func37 (by kernel_rfl) rfl #[.agg #[.int .i64 au, .slice aA ac.length ay, .slice aE ao.length aG, .slice aH aq.length aI], .agg #[.int .i64 2, .int .i64 a1_1, .int .u64 a1_5, .int .u64 a1_6, .int .i64 0]] rfl (by (try simp only [List.map_toArray, List.map_cons, List.map_nil]); first | done | rfl | (simp only [List.length_drop, List.length_take]; rfl)) ?_; (with_reducible refine (portreeveref04_With.calls au (fun k_ => (((av k_ ∨ aw k_ ∨ ax k_) ∨ w.heap.size ≤ k_) ∧ (k_ ≠ af ∧ (k_ ≠ ag ∧ k_ ≠ ab)))) _ _ ac _ _ ao (fun k_ => (((av k_ ∨ aw k_ ∨ ax k_) ∨ w.heap.size ≤ k_) ∧ (k_ ≠ af ∧ (k_ ≠ ag ∧ k_ ≠ ab)))) _ _ aq 2 a1_1 a1_5 a1_6 0 bh bF aJ bi _ ?side1 ?side2 ?side3 ?side4 iN.out).mono ?_); (case side1 => exact ai.out); (case side2 => repeat (first | exact (Kd.V_reads' aj.out).2.2 | (with_reducible refine Kd.C_alloc ?_ _) | (with_reducible refine Kd.C_drewN ?_ _) | (with_reducible refine Kd.C_drew ?_))); (case side3 => exact (Kd.V_reads' aj.out).2.1); (case side4 => exact al.out); rintro e w89 ⟨v358, v361, v364, rfl, ho0, ho1, ho2, hb⟩; refine ⟨_, rfl, ?_⟩; have n0_ := Aside0.mk (Kd.V_elder' (zV ai.out) (Kd.R_base ho1) hb); have n1_ := Aside0.mk (Kd.V_elder' (zV aj.out) (Kd.R_base ho1) hb); have n2_ := Aside0.mk (Kd.V_elder' (zV al.out) (Kd.R_base ho1) hb); have n3_ := Aside0.mk (Kd.V_lower (Kd.V_mono (ok' := fun k_ => ((av k_ ∨ aw k_ ∨ ax k_) ∨ w.heap.size ≤ k_) ∧ some k_ ≠ (v361 : Value).ownBlock ∧ k_ ≠ af ∧ k_ ≠ ag ∧ k_ ≠ ab) ho0 (fun k_ hk_ => ⟨Or.elim hk_.1 (fun hs_ => Or.elim hs_ (fun hs_ => hs_.1) (fun hs_ => hs_.1)) (fun hn_ => (.inr (Nat.le_trans (below_size (by repeat (first | (with_reducible first | exact HB.out | apply pA | apply pN | apply pD | refine pS ?_ ar.out | refine pS ?_ az.out | refine pS ?_ aC.out) | exact HB.out))) hn_))), hk_.2, Or.elim hk_.1 (fun hs_ => Or.elim hs_ (fun hs_ => hs_.2.1) (fun hs_ => hs_.2.1)) (fun hn_ => (Kd.freshB (g := af) (o := .cells #[.int .i64 au, .slice aA ac.length ay, .slice aE ao.length aG, .slice aH aq.length aI] 46 (0, 0)) (zB ae.out) k_ hn_)), Or.elim hk_.1 (fun hs_ => Or.elim hs_ (fun hs_ => hs_.2.2.1) (fun hs_ => hs_.2.2.1)) (fun hn_ => (Kd.freshB (g := ag) (o := .cells #[.int .i64 a1_0, .int .i64 a1_1, .int .i64 a1_2, .int .u32 a1_3, .string a1_4, .int .u64 a1_5, .int .u64 a1_6, .int .i64 a1_7, .int .i64 a1_8] 35 (0, 0)) (zB ah.out) k_ hn_)), Or.elim hk_.1 (fun hs_ => Or.elim hs_ (fun hs_ => hs_.2.2.2) (fun hs_ => hs_.2.2.2)) (fun hn_ => (Kd.freshB (g := ab) (o := .cells #[.int .i64 0, .slice none 0 0, .slice none 0 0, .slice none 0 0] 46 (0, 0)) (zB am.out) k_ hn_))⟩)) (below_size (by repeat (first | (with_reducible first | exact HB.out | apply pA | apply pN | apply pD | refine pS ?_ ar.out | refine pS ?_ az.out | refine pS ?_ aC.out) | exact HB.out)))); have n4_ := Aside0.mk (Kd.R_lower (Kd.R_newM (M := fun k_ => (w.heap.size ≤ k_)) (Kd.R_mono (ok' := fun k_ => True) ho1 (fun _ hk_ => trivial)) (below_size (by repeat (first | (with_reducible first | exact HB.out | apply pA | apply pN | apply pD | refine pS ?_ ar.out | refine pS ?_ az.out | refine pS ?_ aC.out) | exact HB.out))) (fun k_ h_ => h_)) (below_size (by repeat (first | (with_reducible first | exact HB.out | apply pA | apply pN | apply pD | refine pS ?_ ar.out | refine pS ?_ az.out | refine pS ?_ aC.out) | exact HB.out)))); have n5_ := Aside0.mk (Kd.V_lower (Kd.V_mono (ok' := fun k_ => ((av k_ ∨ aw k_ ∨ ax k_) ∨ w.heap.size ≤ k_) ∧ some k_ ≠ (v361 : Value).ownBlock ∧ k_ ≠ af ∧ k_ ≠ ag ∧ k_ ≠ ab) ho2 (fun k_ hk_ => ⟨Or.elim hk_.1 (fun hs_ => Or.elim hs_ (fun hs_ => hs_.1) (fun hs_ => hs_.1)) (fun hn_ => (.inr (Nat.le_trans (below_size (by repeat (first | (with_reducible first | exact HB.out | apply pA | apply pN | apply pD | refine pS ?_ ar.out | refine pS ?_ az.out | refine pS ?_ aC.out) | exact HB.out))) hn_))), hk_.2, Or.elim hk_.1 (fun hs_ => Or.elim hs_ (fun hs_ => hs_.2.1) (fun hs_ => hs_.2.1)) (fun hn_ => (Kd.freshB (g := af) (o := .cells #[.int .i64 au, .slice aA ac.length ay, .slice aE ao.length aG, .slice aH aq.length aI] 46 (0, 0)) (zB ae.out) k_ hn_)), Or.elim hk_.1 (fun hs_ => Or.elim hs_ (fun hs_ => hs_.2.2.1) (fun hs_ => hs_.2.2.1)) (fun hn_ => (Kd.freshB (g := ag) (o := .cells #[.int .i64 a1_0, .int .i64 a1_1, .int .i64 a1_2, .int .u32 a1_3, .string a1_4, .int .u64 a1_5, .int .u64 a1_6, .int .i64 a1_7, .int .i64 a1_8] 35 (0, 0)) (zB ah.out) k_ hn_)), Or.elim hk_.1 (fun hs_ => Or.elim hs_ (fun hs_ => hs_.2.2.2) (fun hs_ => hs_.2.2.2)) (fun hn_ => (Kd.freshB (g := ab) (o := .cells #[.int .i64 0, .slice none 0 0, .slice none 0 0, .slice none 0 0] 46 (0, 0)) (zB am.out) k_ hn_))⟩)) (below_size (by repeat (first | (with_reducible first | exact HB.out | apply pA | apply pN | apply pD | refine pS ?_ ar.out | refine pS ?_ az.out | refine pS ?_ aC.out) | exact HB.out)))); have n6_ := Aside0.mk (blk_below (g := af) (o := .cells #[.int .i64 au, .slice aA ac.length ay, .slice aE ao.length aG, .slice aH aq.length aI] 46 (0, 0)) (zB ae.out) hb); have n7_ := Aside0.mk (blk_below (g := ag) (o := .cells #[.int .i64 a1_0, .int .i64 a1_1, .int .i64 a1_2, .int .u32 a1_3, .string a1_4, .int .u64 a1_5, .int .u64 a1_6, .int .i64 a1_7, .int .i64 a1_8] 35 (0, 0)) (zB ah.out) hb); have n8_ := Aside0.mk (blk_below (g := ab) (o := .cells #[.int .i64 0, .slice none 0 0, .slice none 0 0, .slice none 0 0] 46 (0, 0)) (zB am.out) hb); have n9_ := Aside0.mk (below_step (by repeat (first | (with_reducible first | exact HB.out | apply pA | apply pN | apply pD | refine pS ?_ ar.out | refine pS ?_ az.out | refine pS ?_ aC.out) | exact HB.out)) hb); clear ai; clear aj; clear al; clear ae; clear ah; clear am; clear HB; have ai := n0_; have aj := n1_; have al := n2_; have be := n3_; have bb := n4_; have bc := n5_; have ae := n6_; have ah := n7_; have am := n8_; have HB := n9_; clear n0_ n1_ n2_ n3_ n4_ n5_ n6_ n7_ n8_ n9_; (try clear hb); (try clear hb2); (try clear hk); (try clear hi); (try clear ho0); (try clear ho1); (try clear ho2)) | ((with_reducible refine gate_dst (N := 8) rfl ?_); refine box_event ?hg (N := 8) ?hd (cs := #[.int .i64 0, .slice none 0 0, .slice none 0 0, .slice none 0 0]) (t := 46) ?hr ?_; (case hd => rfl); (case hg => rfl); (case hr => first | (go_simp; done) | (go_simp; rfl)); intro ap hg w90 hbox hb; have n0_ := Aside0.mk (Kd.V_below (Kd.V_elderB (zV ai.out) ap (Nat.le_of_eq hg.symm)) hb); have n1_ := Aside0.mk (Kd.V_below (Kd.V_elderB (zV aj.out) ap (Nat.le_of_eq hg.symm)) hb); have n2_ := Aside0.mk (Kd.V_below (Kd.V_elderB (zV al.out) ap (Nat.le_of_eq hg.symm)) hb); have n3_ := Aside0.mk (Kd.V_below (Kd.V_elderB (zV be.out) ap (Nat.le_of_eq hg.symm)) hb); have n4_ := Aside0.mk (Kd.R_below (zR bb.out) hb); have n5_ := Aside0.mk (Kd.V_below (Kd.V_elderB (zV bc.out) ap (Nat.le_of_eq hg.symm)) hb); have n6_ := Aside0.mk (blk_below (g := af) (o := .cells #[.int .i64 au, .slice aA ac.length ay, .slice aE ao.length aG, .slice aH aq.length aI] 46 (0, 0)) (zB ae.out) hb); have n7_ := Aside0.mk (blk_below (g := ag) (o := .cells #[.int .i64 a1_0, .int .i64 a1_1, .int .i64 a1_2, .int .u32 a1_3, .string a1_4, .int .u64 a1_5, .int .u64 a1_6, .int .i64 a1_7, .int .i64 a1_8] 35 (0, 0)) (zB ah.out) hb); have n8_ := Aside0.mk (blk_below (g := ab) (o := .cells #[.int .i64 0, .slice none 0 0, .slice none 0 0, .slice none 0 0] 46 (0, 0)) (zB am.out) hb); have n9_ := Aside0.mk (below_step (by repeat (first | (with_reducible first | exact HB.out | apply pA | apply pN | apply pD | refine pS ?_ ar.out | refine pS ?_ az.out | refine pS ?_ aC.out) | exact HB.out)) hb); have n10_ := Aside0.mk (hbox); have n11_ := Aside0.mk ((by rw [hg]; exact (below_size (by repeat (first | (with_reducible first | exact HB.out | apply pA | apply pN | apply pD | refine pS ?_ ar.out | refine pS ?_ az.out | refine pS ?_ aC.out) | exact HB.out))) : w.heap.size ≤ ap)); have n12_ := Aside0.mk ((by rw [hg]; exact (below_size (by repeat (first | (with_reducible first | exact HB.out | apply pA | apply pN | apply pD | refine pS ?_ ar.out | refine pS ?_ az.out | refine pS ?_ aC.out) | exact HB.out))) : w.heap.size ≤ ap)); have n13_ := Aside0.mk ((by rw [hg]; exact Nat.ne_of_lt (blk_lt (g := af) (o := .cells #[.int .i64 au, .slice aA ac.length ay, .slice aE ao.length aG, .slice aH aq.length aI] 46 (0, 0)) (zB ae.out)) : af ≠ ap)); have n14_ := Aside0.mk ((by rw [hg]; exact Nat.ne_of_gt (blk_lt (g := af) (o := .cells #[.int .i64 au, .slice aA ac.length ay, .slice aE ao.length aG, .slice aH aq.length aI] 46 (0, 0)) (zB ae.out)) : ap ≠ af)); have n15_ := Aside0.mk ((by rw [hg]; exact Nat.ne_of_lt (blk_lt (g := ag) (o := .cells #[.int .i64 a1_0, .int .i64 a1_1, .int .i64 a1_2, .int .u32 a1_3, .string a1_4, .int .u64 a1_5, .int .u64 a1_6, .int .i64 a1_7, .int .i64 a1_8] 35 (0, 0)) (zB ah.out)) : ag ≠ ap)); have n16_ := Aside0.mk ((by rw [hg]; exact Nat.ne_of_gt (blk_lt (g := ag) (o := .cells #[.int .i64 a1_0, .int .i64 a1_1, .int .i64 a1_2, .int .u32 a1_3, .string a1_4, .int .u64 a1_5, .int .u64 a1_6, .int .i64 a1_7, .int .i64 a1_8] 35 (0, 0)) (zB ah.out)) : ap ≠ ag)); have n17_ := Aside0.mk ((by rw [hg]; exact Nat.ne_of_lt (blk_lt (g := ab) (o := .cells #[.int .i64 0, .slice none 0 0, .slice none 0 0, .slice none 0 0] 46 (0, 0)) (zB am.out)) : ab ≠ ap)); have n18_ := Aside0.mk ((by rw [hg]; exact Nat.ne_of_gt (blk_lt (g := ab) (o := .cells #[.int .i64 0, .slice none 0 0, .slice none 0 0, .slice none 0 0] 46 (0, 0)) (zB am.out)) : ap ≠ ab)); clear ai; clear aj; clear al; clear be; clear bb; clear bc; clear ae; clear ah; clear am; clear HB; have ai := n0_; have aj := n1_; have al := n2_; have be := n3_; have bb := n4_; have bc := n5_; have ae := n6_; have ah := n7_; have am := n8_; have HB := n9_; have aX := n10_; have jJ := n11_; have bE := n12_; have bK := n13_; have ca := n14_; have bL := n15_; have cb := n16_; have bM := n17_; have cc := n18_; clear n0_ n1_ n2_ n3_ n4_ n5_ n6_ n7_ n8_ n9_ n10_ n11_ n12_ n13_ n14_ n15_ n16_ n17_ n18_; clear hb hbox hg; have jK := ca.out; have jL := bK.out; have jM := cb.out; have jN := bL.out; have jO := cc.out; have jP := bM.out; obtain ⟨iF, iG, iH, iI, iJ, iK, iL, iM⟩ := bk4 aX.out; obtain ⟨bO, bP, d5⟩ := Kd.V_slice be.out; subst d5; obtain ⟨aT, aU, d6⟩ := Kd.R_slice bb.out; subst d6; obtain ⟨bt, bu, d7⟩ := Kd.V_slice bc.out; subst d7) | ((with_reducible refine gate_dst (N := 85) rfl ?_); refine Kd.R_lit k51 _ 51 ?hg (N := 85) ?hd (xs := ([] : List (S51))) (inner := []) (ok := fun _ => True) (okp := fun _ => True) ?hr ?hp (fun _ hk => hk) trivial (Below.refl _ _) (Nat.le_refl _) (by simp) ?_; (case hd => rfl); (case hg => rfl); (case hr => first | (go_simp; done) | (go_simp; rfl)); (case hp => exact (Reps.none _ _)); intro v368 w98 ho99 hb hg_ hnew_; clear hg_ hnew_; (first | rw [← cm.out] at ho99 | (simp only [Int.reduceToNat] at ho99; rw [← cm.out] at ho99)); have n0_ := Aside0.mk (Kd.V_elder' (fV ai.out (fun k_ hk => (⟨hk, hk.2⟩ : _ ∧ k_ ≠ ap)) (fun _ h_ => h_.1)) (Kd.R_base ho99) hb); have n1_ := Aside0.mk (Kd.V_elder' (fV aj.out (fun k_ hk => (⟨hk, hk.2⟩ : _ ∧ k_ ≠ ap)) (fun _ h_ => h_.1)) (Kd.R_base ho99) hb); have n2_ := Aside0.mk (Kd.V_elder' (fV al.out (fun k_ hk => (⟨hk, hk.2⟩ : _ ∧ k_ ≠ ap)) (fun _ h_ => h_.1)) (Kd.R_base ho99) hb); have n3_ := Aside0.mk (Kd.V_elder' (fV be.out (fun k_ hk => (⟨hk, hk.2⟩ : _ ∧ k_ ≠ ap)) (fun _ h_ => h_.1)) (Kd.R_base ho99) hb); have n4_ := Aside0.mk (Kd.R_below (zR ((Kd.R_mono (Kd.R_far (p := ⟨ap, 3, none⟩) (Kd.R_far (p := ⟨ap, 2, none⟩) (Kd.R_far (p := ⟨ap, 1, none⟩) (Kd.R_far (p := ⟨ap, 0, none⟩) (Kd.R_types bb.out aX.out (by decide)) (fun _ hk => hk.2) (.int .i64 bh)) (fun _ hk => hk.2) (.slice bO bF.length bP)) (fun _ hk => hk.2) (.slice aT aJ.length aU)) (fun _ hk => hk.2) (.slice bt bi.length bu)) (fun _ h_ => h_.1)))) hb); have n5_ := Aside0.mk (Kd.V_elder' (fV bc.out (fun k_ hk => (⟨hk, hk.2⟩ : _ ∧ k_ ≠ ap)) (fun _ h_ => h_.1)) (Kd.R_base ho99) hb); have n6_ := Aside0.mk (Kd.R_lower (Kd.R_newM (M := fun k_ => (w.heap.size ≤ k_)) ho99 (below_size (by repeat (first | (with_reducible first | exact HB.out | apply pA | apply pN | apply pD | refine pS ?_ ar.out | refine pS ?_ az.out | refine pS ?_ aC.out | refine pS ?_ bE.out) | exact HB.out))) (fun k_ h_ => h_)) (below_size (by repeat (first | (with_reducible first | exact HB.out | apply pA | apply pN | apply pD | refine pS ?_ ar.out | refine pS ?_ az.out | refine pS ?_ aC.out | refine pS ?_ bE.out) | exact HB.out)))); have n7_ := Aside0.mk (blk_below (g := af) (o := .cells #[.int .i64 au, .slice aA ac.length ay, .slice aE ao.length aG, .slice aH aq.length aI] 46 (0, 0)) (fB bK.out ae.out) hb); have n8_ := Aside0.mk (blk_below (g := ag) (o := .cells #[.int .i64 a1_0, .int .i64 a1_1, .int .i64 a1_2, .int .u32 a1_3, .string a1_4, .int .u64 a1_5, .int .u64 a1_6, .int .i64 a1_7, .int .i64 a1_8] 35 (0, 0)) (fB bL.out ah.out) hb); have n9_ := Aside0.mk (blk_below (g := ab) (o := .cells #[.int .i64 0, .slice none 0 0, .slice none 0 0, .slice none 0 0] 46 (0, 0)) (fB bM.out am.out) hb); have n10_ := Aside0.mk (blk_below (g := ap) (o := .cells #[.int .i64 bh, .slice bO bF.length bP, .slice aT aJ.length aU, .slice bt bi.length bu] 46 (0, 0)) (by (with_reducible repeat (first | refine qN ?_ _ | refine qD ?_ | refine qA ?_ _)); refine blk_put (cs := #[.int .i64 bh, .slice bO bF.length bP, .slice aT aJ.length aU, .slice none 0 0]) ?_ 3 _ rfl; (with_reducible repeat (first | refine qN ?_ _ | refine qD ?_ | refine qA ?_ _)); refine blk_put (cs := #[.int .i64 bh, .slice bO bF.length bP, .slice none 0 0, .slice none 0 0]) ?_ 2 _ rfl; (with_reducible repeat (first | refine qN ?_ _ | refine qD ?_ | refine qA ?_ _)); refine blk_put (cs := #[.int .i64 bh, .slice none 0 0, .slice none 0 0, .slice none 0 0]) ?_ 1 _ rfl; (with_reducible repeat (first | refine qN ?_ _ | refine qD ?_ | refine qA ?_ _)); refine blk_put (cs := #[.int .i64 0, .slice none 0 0, .slice none 0 0, .slice none 0 0]) ?_ 0 _ rfl; (with_reducible repeat (first | refine qN ?_ _ | refine qD ?_ | refine qA ?_ _)); exact aX.out) hb); have n11_ := Aside0.mk (below_step (by repeat (first | (with_reducible first | exact HB.out | apply pA | apply pN | apply pD | refine pS ?_ ar.out | refine pS ?_ az.out | refine pS ?_ aC.out | refine pS ?_ bE.out) | exact HB.out)) hb); clear ai; clear aj; clear al; clear be; clear bb; clear bc; clear ae; clear ah; clear am; clear aX; clear HB; have ai := n0_; have aj := n1_; have al := n2_; have be := n3_; have bb := n4_; have bc := n5_; have bX := n6_; have ae := n7_; have ah := n8_; have am := n9_; have aX := n10_; have HB := n11_; clear n0_ n1_ n2_ n3_ n4_ n5_ n6_ n7_ n8_ n9_ n10_ n11_; clear hb ho99; obtain ⟨d8, d9, ea, eb, ec, ed, ee, ef⟩ := bk4 ae.out) | ((with_reducible refine gate_builtin (b := .append) (xs := #[.tmp 85, .tmp 87]) rfl ?_); at_builtin; refine Kd.R_append_rows k51 (w0 := w) w.heap.size rfl (.tmp 85) (.tmp 87) 42 51 (.agg #[(.int .i64 0), (.int .i64 0), (.int .u32 0), (.string ⟨#[]⟩), (.int .u64 0), (.int .u64 0)]) 56 rfl Try.underlying42 info51 rfl (by decide) (by omega) v368 bN ac _ _ _ (fun k_ => (w.heap.size ≤ k_)) (fun _ => False) rfl rfl ?aO ?aR (fun _ _ h => h) (fun _ h => h.elim) ?aF ?aB ?aS ?aL ?_; (case aR => repeat (first | exact (Kd.V_reads' ai.out).2.2 | (with_reducible refine Kd.C_alloc ?_ _) | (with_reducible refine Kd.C_drewN ?_ _) | (with_reducible refine Kd.C_drew ?_))); (case aB => exact (by repeat (first | (with_reducible first | exact HB.out | apply pA | apply pN | apply pD | refine pS ?_ ar.out | refine pS ?_ az.out | refine pS ?_ aC.out | refine pS ?_ bE.out) | exact HB.out))); (case aF => exact (fun k_ hk => (Nat.le_trans (below_size (by repeat (first | (with_reducible first | exact HB.out | apply pA | apply pN | apply pD | refine pS ?_ ar.out | refine pS ?_ az.out | refine pS ?_ aC.out | refine pS ?_ bE.out) | exact HB.out))) hk))); (case aO => exact (zR (Kd.R_mono bX.out (fun _ hk => hk.1)))); (case aS => exact (below_size (by repeat (first | (with_reducible first | exact HB.out | apply pA | apply pN | apply pD | refine pS ?_ ar.out | refine pS ?_ az.out | refine pS ?_ aC.out | refine pS ?_ bE.out) | exact HB.out)))); (case aL => have := dV.out; omega); intro v371 w101 ho hb hg hat; rw [← dW.out] at ho; have n0_ := Aside0.mk (Kd.V_afterv (ok := (fun k_ => ((av k_ ∨ aw k_ ∨ ax k_) ∨ w.heap.size ≤ k_) ∧ some k_ ≠ (.slice aT aJ.length aU : Value).ownBlock ∧ k_ ≠ af ∧ k_ ≠ ag ∧ k_ ≠ ab ∧ k_ ≠ ap)) (zV (Kd.V_mono ai.out (fun _ hk => ⟨⟨hk.1.1.1.1, ⟨hk.1.1.2, ⟨hk.1.1.1.2.1, ⟨hk.1.1.1.2.2.1, ⟨hk.1.1.1.2.2.2, hk.1.2⟩⟩⟩⟩⟩, hk.2⟩))) hg hat); have n1_ := Aside0.mk (Kd.V_afterv (ok := (fun k_ => ((av k_ ∨ aw k_ ∨ ax k_) ∨ w.heap.size ≤ k_) ∧ some k_ ≠ (.slice aT aJ.length aU : Value).ownBlock ∧ k_ ≠ af ∧ k_ ≠ ag ∧ k_ ≠ ab ∧ k_ ≠ ap)) (zV (Kd.V_mono aj.out (fun _ hk => ⟨⟨hk.1.1.1.1, ⟨hk.1.1.2, ⟨hk.1.1.1.2.1, ⟨hk.1.1.1.2.2.1, ⟨hk.1.1.1.2.2.2, hk.1.2⟩⟩⟩⟩⟩, hk.2⟩))) hg hat); have n2_ := Aside0.mk (Kd.V_afterv (ok := (fun k_ => ((av k_ ∨ aw k_ ∨ ax k_) ∨ w.heap.size ≤ k_) ∧ some k_ ≠ (.slice aT aJ.length aU : Value).ownBlock ∧ k_ ≠ af ∧ k_ ≠ ag ∧ k_ ≠ ab ∧ k_ ≠ ap)) (zV (Kd.V_mono al.out (fun _ hk => ⟨⟨hk.1.1.1.1, ⟨hk.1.1.2, ⟨hk.1.1.1.2.1, ⟨hk.1.1.1.2.2.1, ⟨hk.1.1.1.2.2.2, hk.1.2⟩⟩⟩⟩⟩, hk.2⟩))) hg hat); have n3_ := Aside0.mk (blk_grown (g := af) (o := .cells #[.int .i64 au, .slice aA ac.length ay, .slice aE ao.length aG, .slice aH aq.length aI] 46 (0, 0)) (zB ae.out) hg (Kd.R_ne bX.out ae.out (by decide))); have n4_ := Aside0.mk (blk_grown (g := ag) (o := .cells #[.int .i64 a1_0, .int .i64 a1_1, .int .i64 a1_2, .int .u32 a1_3, .string a1_4, .int .u64 a1_5, .int .u64 a1_6, .int .i64 a1_7, .int .i64 a1_8] 35 (0, 0)) (zB ah.out) hg (Kd.R_ne bX.out ah.out (by decide))); have n5_ := Aside0.mk (blk_grown (g := ab) (o := .cells #[.int .i64 0, .slice none 0 0, .slice none 0 0, .slice none 0 0] 46 (0, 0)) (zB am.out) hg (Kd.R_ne bX.out am.out (by decide))); have n6_ := Aside0.mk (Kd.V_afterv (ok := (fun k_ => ((av k_ ∨ aw k_ ∨ ax k_) ∨ w.heap.size ≤ k_) ∧ some k_ ≠ (.slice aT aJ.length aU : Value).ownBlock ∧ k_ ≠ af ∧ k_ ≠ ag ∧ k_ ≠ ab ∧ k_ ≠ ap)) (zV (Kd.V_mono be.out (fun _ hk => ⟨⟨hk.1.1.1, ⟨hk.1.1.2.1, ⟨hk.1.1.2.2.1, ⟨hk.1.1.2.2.2.1, ⟨hk.1.1.2.2.2.2, hk.1.2⟩⟩⟩⟩⟩, hk.2⟩))) hg hat); have n7_ := Aside0.mk (Kd.R_over' (zR bb.out) (Kd.R_typed (zR bX.out)) (by decide) hg); have n8_ := Aside0.mk (Kd.V_afterv (ok := (fun k_ => ((av k_ ∨ aw k_ ∨ ax k_) ∨ w.heap.size ≤ k_) ∧ some k_ ≠ (.slice aT aJ.length aU : Value).ownBlock ∧ k_ ≠ af ∧ k_ ≠ ag ∧ k_ ≠ ab ∧ k_ ≠ ap)) (zV (Kd.V_mono bc.out (fun _ hk => ⟨⟨hk.1.1.1, ⟨hk.1.1.2.1, ⟨hk.1.1.2.2.1, ⟨hk.1.1.2.2.2.1, ⟨hk.1.1.2.2.2.2, hk.1.2⟩⟩⟩⟩⟩, hk.2⟩))) hg hat); have n9_ := Aside0.mk (blk_grown (g := ap) (o := .cells #[.int .i64 bh, .slice bO bF.length bP, .slice aT aJ.length aU, .slice bt bi.length bu] 46 (0, 0)) (zB aX.out) hg (Kd.R_ne bX.out aX.out (by decide))); have n10_ := Aside0.mk (hb); have n11_ := Aside0.mk (ho); clear ai; clear aj; clear al; clear ae; clear ah; clear am; clear be; clear bb; clear bc; clear aX; clear HB; clear bX; have ai := n0_; have aj := n1_; have al := n2_; have ae := n3_; have ah := n4_; have am := n5_; have be := n6_; have bb := n7_; have bc := n8_; have aX := n9_; have HB := n10_; have aZ := n11_; clear n0_ n1_ n2_ n3_ n4_ n5_ n6_ n7_ n8_ n9_ n10_ n11_; clear ho hb hg hat; obtain ⟨jQ, aD, dY⟩ := Kd.R_slice aZ.out; subst dY; obtain ⟨eg, eh, ei, ej, ek, el, em, en⟩ := bk4 aX.out; have p373 : 0 ≤ (aa : Int) := of_decide_eq_true (by first | (with_reducible assumption) | assumption); have q373 : aa < (ad.length : Int) := of_decide_eq_true (by first | (with_reducible assumption) | assumption); obtain ⟨aY, e373, hx373_0, hx373_1, hx373_2, hx373_3, hx373_4, hx373_5⟩ := at_T51 (Kd.R_reads' aZ.out).2.2 aa p373 q373; cases e373; have hn373_0 : aY.block ≠ ap := Kd.own_blk (Kd.R_ne aZ.out aX.out (by decide)); replace hx373_0 := (cell_far (p := ⟨ap, 1, none⟩) (by first | (rw [add_block]; exact hn373_0) | (show (Addr.add _ _).block ≠ _; rw [add_block]; exact hn373_0) | exact hn373_0) (.slice (some aY) ad.length aD)).trans hx373_0; replace hx373_1 := (cell_far (p := ⟨ap, 1, none⟩) (by first | (rw [add_block]; exact hn373_0) | (show (Addr.add _ _).block ≠ _; rw [add_block]; exact hn373_0) | exact hn373_0) (.slice (some aY) ad.length aD)).trans hx373_1; replace hx373_2 := (cell_far (p := ⟨ap, 1, none⟩) (by first | (rw [add_block]; exact hn373_0) | (show (Addr.add _ _).block ≠ _; rw [add_block]; exact hn373_0) | exact hn373_0) (.slice (some aY) ad.length aD)).trans hx373_2; replace hx373_3 := (cell_far (p := ⟨ap, 1, none⟩) (by first | (rw [add_block]; exact hn373_0) | (show (Addr.add _ _).block ≠ _; rw [add_block]; exact hn373_0) | exact hn373_0) (.slice (some aY) ad.length aD)).trans hx373_3; replace hx373_4 := (cell_far (p := ⟨ap, 1, none⟩) (by first | (rw [add_block]; exact hn373_0) | (show (Addr.add _ _).block ≠ _; rw [add_block]; exact hn373_0) | exact hn373_0) (.slice (some aY) ad.length aD)).trans hx373_4; replace hx373_5 := (cell_far (p := ⟨ap, 1, none⟩) (by first | (rw [add_block]; exact hn373_0) | (show (Addr.add _ _).block ≠ _; rw [add_block]; exact hn373_0) | exact hn373_0) (.slice (some aY) ad.length aD)).trans hx373_5; clear hn373_0; replace p373 := eq_true p373; replace q373 := eq_true q373) | ((with_reducible refine gate_dst (N := 9) rfl ?_); refine box_event ?hg (N := 9) ?hd (cs := #[.int .i64 0, .int .i64 0, .int .u32 0, .string (⟨#[]⟩ : ByteArray), .int .u64 0, .int .u64 0]) (t := 51) ?hr ?_; (case hd => rfl); (case hg => rfl); (case hr => first | (go_simp; done) | (go_simp; rfl)); intro an hg w104 hbox hb; have n0_ := Aside0.mk (Kd.V_below (Kd.V_elderB (fV ai.out (fun k_ hk => (⟨hk, hk.1.2.2.2.2.2⟩ : _ ∧ k_ ≠ ap)) (fun _ h_ => h_.1)) an (Nat.le_of_eq hg.symm)) hb); have n1_ := Aside0.mk (Kd.V_below (Kd.V_elderB (fV aj.out (fun k_ hk => (⟨hk, hk.1.2.2.2.2.2⟩ : _ ∧ k_ ≠ ap)) (fun _ h_ => h_.1)) an (Nat.le_of_eq hg.symm)) hb); have n2_ := Aside0.mk (Kd.V_below (Kd.V_elderB (fV al.out (fun k_ hk => (⟨hk, hk.1.2.2.2.2.2⟩ : _ ∧ k_ ≠ ap)) (fun _ h_ => h_.1)) an (Nat.le_of_eq hg.symm)) hb); have n3_ := Aside0.mk (Kd.V_below (Kd.V_elderB (fV be.out (fun k_ hk => (⟨hk, hk.1.2.2.2.2.2⟩ : _ ∧ k_ ≠ ap)) (fun _ h_ => h_.1)) an (Nat.le_of_eq hg.symm)) hb); have n4_ := Aside0.mk (Kd.R_below (zR ((Kd.R_mono (Kd.R_far (p := ⟨ap, 1, none⟩) (Kd.R_types bb.out aX.out (by decide)) (fun _ hk => hk.2) (.slice (some aY) ad.length aD)) (fun _ h_ => h_.1)))) hb); have n5_ := Aside0.mk (Kd.V_below (Kd.V_elderB (fV bc.out (fun k_ hk => (⟨hk, hk.1.2.2.2.2.2⟩ : _ ∧ k_ ≠ ap)) (fun _ h_ => h_.1)) an (Nat.le_of_eq hg.symm)) hb); have n6_ := Aside0.mk (Kd.R_below (Kd.R_elderB (zR ((Kd.R_mono (Kd.R_far (p := ⟨ap, 1, none⟩) (Kd.R_types aZ.out aX.out (by decide)) (fun _ hk => hk.2) (.slice (some aY) ad.length aD)) (fun _ h_ => h_.1)))) an (Nat.le_of_eq hg.symm)) hb); have n7_ := Aside0.mk (blk_below (g := af) (o := .cells #[.int .i64 au, .slice aA ac.length ay, .slice aE ao.length aG, .slice aH aq.length aI] 46 (0, 0)) (fB bK.out ae.out) hb); have n8_ := Aside0.mk (blk_below (g := ag) (o := .cells #[.int .i64 a1_0, .int .i64 a1_1, .int .i64 a1_2, .int .u32 a1_3, .string a1_4, .int .u64 a1_5, .int .u64 a1_6, .int .i64 a1_7, .int .i64 a1_8] 35 (0, 0)) (fB bL.out ah.out) hb); have n9_ := Aside0.mk (blk_below (g := ab) (o := .cells #[.int .i64 0, .slice none 0 0, .slice none 0 0, .slice none 0 0] 46 (0, 0)) (fB bM.out am.out) hb); have n10_ := Aside0.mk (blk_below (g := ap) (o := .cells #[.int .i64 bh, .slice (some aY) ad.length aD, .slice aT aJ.length aU, .slice bt bi.length bu] 46 (0, 0)) (by (with_reducible repeat (first | refine qN ?_ _ | refine qD ?_ | refine qA ?_ _)); refine blk_put (cs := #[.int .i64 bh, .slice bO bF.length bP, .slice aT aJ.length aU, .slice bt bi.length bu]) ?_ 1 _ rfl; (with_reducible repeat (first | refine qN ?_ _ | refine qD ?_ | refine qA ?_ _)); exact aX.out) hb); have n11_ := Aside0.mk (below_step (by repeat (first | (with_reducible first | exact HB.out | apply pA | apply pN | apply pD | refine pS ?_ ar.out | refine pS ?_ az.out | refine pS ?_ aC.out | refine pS ?_ bE.out) | exact HB.out)) hb); have n12_ := Aside0.mk (hbox); have n13_ := Aside0.mk ((by rw [hg]; exact (below_size (by repeat (first | (with_reducible first | exact HB.out | apply pA | apply pN | apply pD | refine pS ?_ ar.out | refine pS ?_ az.out | refine pS ?_ aC.out | refine pS ?_ bE.out) | exact HB.out))) : w.heap.size ≤ an)); have n14_ := Aside0.mk ((by rw [hg]; exact (below_size (by repeat (first | (with_reducible first | exact HB.out | apply pA | apply pN | apply pD | refine pS ?_ ar.out | refine pS ?_ az.out | refine pS ?_ aC.out | refine pS ?_ bE.out) | exact HB.out))) : w.heap.size ≤ an)); have n15_ := Aside0.mk ((by rw [hg]; exact Nat.ne_of_lt (blk_lt (g := af) (o := .cells #[.int .i64 au, .slice aA ac.length ay, .slice aE ao.length aG, .slice aH aq.length aI] 46 (0, 0)) (fB bK.out ae.out)) : af ≠ an)); have n16_ := Aside0.mk ((by rw [hg]; exact Nat.ne_of_gt (blk_lt (g := af) (o := .cells #[.int .i64 au, .slice aA ac.length ay, .slice aE ao.length aG, .slice aH aq.length aI] 46 (0, 0)) (fB bK.out ae.out)) : an ≠ af)); have n17_ := Aside0.mk ((by rw [hg]; exact Nat.ne_of_lt (blk_lt (g := ag) (o := .cells #[.int .i64 a1_0, .int .i64 a1_1, .int .i64 a1_2, .int .u32 a1_3, .string a1_4, .int .u64 a1_5, .int .u64 a1_6, .int .i64 a1_7, .int .i64 a1_8] 35 (0, 0)) (fB bL.out ah.out)) : ag ≠ an)); have n18_ := Aside0.mk ((by rw [hg]; exact Nat.ne_of_gt (blk_lt (g := ag) (o := .cells #[.int .i64 a1_0, .int .i64 a1_1, .int .i64 a1_2, .int .u32 a1_3, .string a1_4, .int .u64 a1_5, .int .u64 a1_6, .int .i64 a1_7, .int .i64 a1_8] 35 (0, 0)) (fB bL.out ah.out)) : an ≠ ag)); have n19_ := Aside0.mk ((by rw [hg]; exact Nat.ne_of_lt (blk_lt (g := ab) (o := .cells #[.int .i64 0, .slice none 0 0, .slice none 0 0, .slice none 0 0] 46 (0, 0)) (fB bM.out am.out)) : ab ≠ an)); have n20_ := Aside0.mk ((by rw [hg]; exact Nat.ne_of_gt (blk_lt (g := ab) (o := .cells #[.int .i64 0, .slice none 0 0, .slice none 0 0, .slice none 0 0] 46 (0, 0)) (fB bM.out am.out)) : an ≠ ab)); have n21_ := Aside0.mk ((by rw [hg]; exact Nat.ne_of_lt (blk_lt (g := ap) (o := .cells #[.int .i64 bh, .slice (some aY) ad.length aD, .slice aT aJ.length aU, .slice bt bi.length bu] 46 (0, 0)) (by (with_reducible repeat (first | refine qN ?_ _ | refine qD ?_ | refine qA ?_ _)); refine blk_put (cs := #[.int .i64 bh, .slice bO bF.length bP, .slice aT aJ.length aU, .slice bt bi.length bu]) ?_ 1 _ rfl; (with_reducible repeat (first | refine qN ?_ _ | refine qD ?_ | refine qA ?_ _)); exact aX.out)) : ap ≠ an)); have n22_ := Aside0.mk ((by rw [hg]; exact Nat.ne_of_gt (blk_lt (g := ap) (o := .cells #[.int .i64 bh, .slice (some aY) ad.length aD, .slice aT aJ.length aU, .slice bt bi.length bu] 46 (0, 0)) (by (with_reducible repeat (first | refine qN ?_ _ | refine qD ?_ | refine qA ?_ _)); refine blk_put (cs := #[.int .i64 bh, .slice bO bF.length bP, .slice aT aJ.length aU, .slice bt bi.length bu]) ?_ 1 _ rfl; (with_reducible repeat (first | refine qN ?_ _ | refine qD ?_ | refine qA ?_ _)); exact aX.out)) : an ≠ ap)); clear ai; clear aj; clear al; clear be; clear bb; clear bc; clear aZ; clear ae; clear ah; clear am; clear aX; clear HB; have ai := n0_; have aj := n1_; have al := n2_; have be := n3_; have bb := n4_; have bc := n5_; have aZ := n6_; have ae := n7_; have ah := n8_; have am := n9_; have aX := n10_; have HB := n11_; have bm := n12_; have jR := n13_; have b6 := n14_; have bR := n15_; have cd := n16_; have bS := n17_; have ce := n18_; have bT := n19_; have cf := n20_; have bU := n21_; have cg := n22_; clear n0_ n1_ n2_ n3_ n4_ n5_ n6_ n7_ n8_ n9_ n10_ n11_ n12_ n13_ n14_ n15_ n16_ n17_ n18_ n19_ n20_ n21_ n22_; clear hb hbox hg; have iO := cd.out; have iP := bR.out; have iQ := ce.out; have iR := bS.out; have iS := cf.out; have iT := bT.out; have iU := cg.out; have iV := bU.out; obtain ⟨eo, ep, eq, er, es, et, eu, ev, ew, ex, ey, ez⟩ := bk6 bm.out) | ((with_reducible refine gate_store (t := 51) (p := 9) rfl ?_); refine store_event (t := 51) (p := 9) (v := ?vo_w110) (w1 := ((((((w104.setCell ⟨an, 0, none⟩ (.int .i64 ((rd_T51 ad aa).f0))).setCell ⟨an, 1, none⟩ (.int .i64 ((rd_T51 ad aa).f1))).setCell ⟨an, 2, none⟩ (.int .u32 ((rd_T51 ad aa).f2))).setCell ⟨an, 3, none⟩ (.string ((rd_T51 ad aa).f3))).setCell ⟨an, 4, none⟩ (.int .u64 ((rd_T51 ad aa).f4))).setCell ⟨an, 5, none⟩ (.int .u64 ((rd_T51 ad aa).f5)))) ?hg ?ho ?hn ?hr ?_; (case ho => rfl); (case hg => rfl); (case hn => rfl); (case hr => first | (go_simp; done) | (go_simp; rfl)); intro w110 hw; have n0_ : Aside0 (Kd.V k51 51 w110 w.heap.size (fun k_ => ((av k_ ∨ aw k_ ∨ ax k_) ∨ w.heap.size ≤ k_) ∧ some k_ ≠ (.slice aT aJ.length aU : Value).ownBlock ∧ some k_ ≠ (.slice (some aY) ad.length aD : Value).ownBlock ∧ k_ ≠ af ∧ k_ ≠ ag ∧ k_ ≠ ab ∧ k_ ≠ ap ∧ k_ ≠ an) (.slice aA ac.length ay) ac) := ⟨(by rw [hw]; exact (fV ai.out (fun k_ hk => (⟨hk, hk.2⟩ : _ ∧ k_ ≠ an)) (fun _ hk => ⟨hk.1.1.1.1, ⟨hk.1.1.1.2.1, ⟨hk.1.1.2, ⟨hk.1.1.1.2.2.1, ⟨hk.1.1.1.2.2.2.1, ⟨hk.1.1.1.2.2.2.2.1, ⟨hk.1.1.1.2.2.2.2.2, hk.1.2⟩⟩⟩⟩⟩⟩⟩)))⟩; have n1_ : Aside0 (Kd.V k56 56 w110 w.heap.size (fun k_ => ((av k_ ∨ aw k_ ∨ ax k_) ∨ w.heap.size ≤ k_) ∧ some k_ ≠ (.slice aT aJ.length aU : Value).ownBlock ∧ some k_ ≠ (.slice (some aY) ad.length aD : Value).ownBlock ∧ k_ ≠ af ∧ k_ ≠ ag ∧ k_ ≠ ab ∧ k_ ≠ ap ∧ k_ ≠ an) (.slice aE ao.length aG) ao) := ⟨(by rw [hw]; exact (fV aj.out (fun k_ hk => (⟨hk, hk.2⟩ : _ ∧ k_ ≠ an)) (fun _ hk => ⟨hk.1.1.1.1, ⟨hk.1.1.1.2.1, ⟨hk.1.1.2, ⟨hk.1.1.1.2.2.1, ⟨hk.1.1.1.2.2.2.1, ⟨hk.1.1.1.2.2.2.2.1, ⟨hk.1.1.1.2.2.2.2.2, hk.1.2⟩⟩⟩⟩⟩⟩⟩)))⟩; have n2_ : Aside0 (Kd.V k68 68 w110 w.heap.size (fun k_ => ((av k_ ∨ aw k_ ∨ ax k_) ∨ w.heap.size ≤ k_) ∧ some k_ ≠ (.slice aT aJ.length aU : Value).ownBlock ∧ some k_ ≠ (.slice (some aY) ad.length aD : Value).ownBlock ∧ k_ ≠ af ∧ k_ ≠ ag ∧ k_ ≠ ab ∧ k_ ≠ ap ∧ k_ ≠ an) (.slice aH aq.length aI) aq) := ⟨(by rw [hw]; exact (fV al.out (fun k_ hk => (⟨hk, hk.2⟩ : _ ∧ k_ ≠ an)) (fun _ hk => ⟨hk.1.1.1.1, ⟨hk.1.1.1.2.1, ⟨hk.1.1.2, ⟨hk.1.1.1.2.2.1, ⟨hk.1.1.1.2.2.2.1, ⟨hk.1.1.1.2.2.2.2.1, ⟨hk.1.1.1.2.2.2.2.2, hk.1.2⟩⟩⟩⟩⟩⟩⟩)))⟩; have n3_ : Aside0 (Kd.V k51 51 w110 w.heap.size (fun k_ => ((av k_ ∨ aw k_ ∨ ax k_) ∨ w.heap.size ≤ k_) ∧ some k_ ≠ (.slice aT aJ.length aU : Value).ownBlock ∧ some k_ ≠ (.slice (some aY) ad.length aD : Value).ownBlock ∧ k_ ≠ af ∧ k_ ≠ ag ∧ k_ ≠ ab ∧ k_ ≠ ap ∧ k_ ≠ an) (.slice bO bF.length bP) bF) := ⟨(by rw [hw]; exact (fV be.out (fun k_ hk => (⟨hk, hk.2⟩ : _ ∧ k_ ≠ an)) (fun _ hk => ⟨hk.1.1.1.1, ⟨hk.1.1.1.2.1, ⟨hk.1.1.2, ⟨hk.1.1.1.2.2.1, ⟨hk.1.1.1.2.2.2.1, ⟨hk.1.1.1.2.2.2.2.1, ⟨hk.1.1.1.2.2.2.2.2, hk.1.2⟩⟩⟩⟩⟩⟩⟩)))⟩; have n4_ : Aside0 (Kd.R k56 56 w110 w.heap.size (fun k_ => (w.heap.size ≤ k_)) (.slice aT aJ.length aU) aJ) := ⟨(by rw [hw]; exact (zR (Kd.R_mono (Kd.R_far (p := ⟨an, 5, none⟩) (Kd.R_far (p := ⟨an, 4, none⟩) (Kd.R_far (p := ⟨an, 3, none⟩) (Kd.R_far (p := ⟨an, 2, none⟩) (Kd.R_far (p := ⟨an, 1, none⟩) (Kd.R_far (p := ⟨an, 0, none⟩) (Kd.R_types bb.out bm.out (by decide)) (fun _ hk => hk.2) (.int .i64 ((rd_T51 ad aa).f0))) (fun _ hk => hk.2) (.int .i64 ((rd_T51 ad aa).f1))) (fun _ hk => hk.2) (.int .u32 ((rd_T51 ad aa).f2))) (fun _ hk => hk.2) (.string ((rd_T51 ad aa).f3))) (fun _ hk => hk.2) (.int .u64 ((rd_T51 ad aa).f4))) (fun _ hk => hk.2) (.int .u64 ((rd_T51 ad aa).f5))) (fun _ hk => hk.1.1))))⟩; have n5_ : Aside0 (Kd.V k68 68 w110 w.heap.size (fun k_ => ((av k_ ∨ aw k_ ∨ ax k_) ∨ w.heap.size ≤ k_) ∧ some k_ ≠ (.slice aT aJ.length aU : Value).ownBlock ∧ some k_ ≠ (.slice (some aY) ad.length aD : Value).ownBlock ∧ k_ ≠ af ∧ k_ ≠ ag ∧ k_ ≠ ab ∧ k_ ≠ ap ∧ k_ ≠ an) (.slice bt bi.length bu) bi) := ⟨(by rw [hw]; exact (fV bc.out (fun k_ hk => (⟨hk, hk.2⟩ : _ ∧ k_ ≠ an)) (fun _ hk => ⟨hk.1.1.1.1, ⟨hk.1.1.1.2.1, ⟨hk.1.1.2, ⟨hk.1.1.1.2.2.1, ⟨hk.1.1.1.2.2.2.1, ⟨hk.1.1.1.2.2.2.2.1, ⟨hk.1.1.1.2.2.2.2.2, hk.1.2⟩⟩⟩⟩⟩⟩⟩)))⟩; have n6_ : Aside0 (Kd.R k51 51 w110 w.heap.size (fun k_ => (w.heap.size ≤ k_) ∧ k_ ≠ an) (.slice (some aY) ad.length aD) ad) := ⟨(by rw [hw]; exact (fR aZ.out (fun k_ hk => (⟨hk, hk.2⟩ : _ ∧ k_ ≠ an)) (fun _ hk => ⟨hk.1.1, hk.1.2⟩)))⟩; have n7_ : Aside0 (w110.heap[af]? = some (.cells #[.int .i64 au, .slice aA ac.length ay, .slice aE ao.length aG, .slice aH aq.length aI] 46 (0, 0))) := ⟨(by rw [hw]; exact (fB bR.out ae.out))⟩; have n8_ : Aside0 (w110.heap[ag]? = some (.cells #[.int .i64 a1_0, .int .i64 a1_1, .int .i64 a1_2, .int .u32 a1_3, .string a1_4, .int .u64 a1_5, .int .u64 a1_6, .int .i64 a1_7, .int .i64 a1_8] 35 (0, 0))) := ⟨(by rw [hw]; exact (fB bS.out ah.out))⟩; have n9_ : Aside0 (w110.heap[ab]? = some (.cells #[.int .i64 0, .slice none 0 0, .slice none 0 0, .slice none 0 0] 46 (0, 0))) := ⟨(by rw [hw]; exact (fB bT.out am.out))⟩; have n10_ : Aside0 (w110.heap[ap]? = some (.cells #[.int .i64 bh, .slice (some aY) ad.length aD, .slice aT aJ.length aU, .slice bt bi.length bu] 46 (0, 0))) := ⟨(by rw [hw]; exact (fB bU.out aX.out))⟩; have n11_ : Aside0 (w110.heap[an]? = some (.cells #[.int .i64 ((rd_T51 ad aa).f0), .int .i64 ((rd_T51 ad aa).f1), .int .u32 ((rd_T51 ad aa).f2), .string ((rd_T51 ad aa).f3), .int .u64 ((rd_T51 ad aa).f4), .int .u64 ((rd_T51 ad aa).f5)] 51 (0, 0))) := ⟨(by rw [hw]; exact (by (with_reducible repeat (first | refine qN ?_ _ | refine qD ?_ | refine qA ?_ _)); refine blk_put (cs := #[.int .i64 ((rd_T51 ad aa).f0), .int .i64 ((rd_T51 ad aa).f1), .int .u32 ((rd_T51 ad aa).f2), .string ((rd_T51 ad aa).f3), .int .u64 ((rd_T51 ad aa).f4), .int .u64 0]) ?_ 5 _ rfl; (with_reducible repeat (first | refine qN ?_ _ | refine qD ?_ | refine qA ?_ _)); refine blk_put (cs := #[.int .i64 ((rd_T51 ad aa).f0), .int .i64 ((rd_T51 ad aa).f1), .int .u32 ((rd_T51 ad aa).f2), .string ((rd_T51 ad aa).f3), .int .u64 0, .int .u64 0]) ?_ 4 _ rfl; (with_reducible repeat (first | refine qN ?_ _ | refine qD ?_ | refine qA ?_ _)); refine blk_put (cs := #[.int .i64 ((rd_T51 ad aa).f0), .int .i64 ((rd_T51 ad aa).f1), .int .u32 ((rd_T51 ad aa).f2), .string (⟨#[]⟩ : ByteArray), .int .u64 0, .int .u64 0]) ?_ 3 _ rfl; (with_reducible repeat (first | refine qN ?_ _ | refine qD ?_ | refine qA ?_ _)); refine blk_put (cs := #[.int .i64 ((rd_T51 ad aa).f0), .int .i64 ((rd_T51 ad aa).f1), .int .u32 0, .string (⟨#[]⟩ : ByteArray), .int .u64 0, .int .u64 0]) ?_ 2 _ rfl; (with_reducible repeat (first | refine qN ?_ _ | refine qD ?_ | refine qA ?_ _)); refine blk_put (cs := #[.int .i64 ((rd_T51 ad aa).f0), .int .i64 0, .int .u32 0, .string (⟨#[]⟩ : ByteArray), .int .u64 0, .int .u64 0]) ?_ 1 _ rfl; (with_reducible repeat (first | refine qN ?_ _ | refine qD ?_ | refine qA ?_ _)); refine blk_put (cs := #[.int .i64 0, .int .i64 0, .int .u32 0, .string (⟨#[]⟩ : ByteArray), .int .u64 0, .int .u64 0]) ?_ 0 _ rfl; (with_reducible repeat (first | refine qN ?_ _ | refine qD ?_ | refine qA ?_ _)); exact bm.out))⟩; have n12_ : Aside0 (Below w.heap.size w w110) := ⟨(by rw [hw]; exact (by repeat (first | (with_reducible first | exact HB.out | apply pA | apply pN | apply pD | refine pS ?_ ar.out | refine pS ?_ az.out | refine pS ?_ aC.out | refine pS ?_ bE.out | refine pS ?_ b6.out) | exact HB.out)))⟩; clear hw; clear ai; clear aj; clear al; clear be; clear bb; clear bc; clear aZ; clear ae; clear ah; clear am; clear aX; clear bm; clear HB; have ai := n0_; have aj := n1_; have al := n2_; have be := n3_; have bb := n4_; have bc := n5_; have aZ := n6_; have ae := n7_; have ah := n8_; have am := n9_; have aX := n10_; have bm := n11_; have HB := n12_; clear n0_ n1_ n2_ n3_ n4_ n5_ n6_ n7_ n8_ n9_ n10_ n11_ n12_; obtain ⟨eA, eB, eC, eD, eE, eF, eG, eH, eI, eJ, eK, eL, eM, eN, eO, eP, eQ, eR⟩ := bk9 ah.out; obtain ⟨eS, eT, eU, eV, eW, eX, eY, eZ, e0, e1, e2, e3⟩ := bk6 bm.out) | ((with_reducible refine gate_store (t := 22) (p := 97) rfl ?_); refine store_event (t := 22) (p := 97) (v := ?vo_w113) (w1 := (w110.setCell ⟨an, 4, none⟩ (.int .u64 a1_5))) ?hg ?ho ?hn ?hr ?_; (case ho => rfl); (case hg => rfl); (case hn => rfl); (case hr => first | (go_simp; done) | (go_simp; rfl)); intro w113 hw; have n0_ : Aside0 (Kd.V k51 51 w113 w.heap.size (fun k_ => ((av k_ ∨ aw k_ ∨ ax k_) ∨ w.heap.size ≤ k_) ∧ some k_ ≠ (.slice aT aJ.length aU : Value).ownBlock ∧ some k_ ≠ (.slice (some aY) ad.length aD : Value).ownBlock ∧ k_ ≠ af ∧ k_ ≠ ag ∧ k_ ≠ ab ∧ k_ ≠ ap ∧ k_ ≠ an) (.slice aA ac.length ay) ac) := ⟨(by rw [hw]; exact (fV ai.out (fun k_ hk => (⟨hk, hk.2.2.2.2.2.2.2⟩ : _ ∧ k_ ≠ an)) (fun _ hk => ⟨hk.1.1, ⟨hk.1.2.1, ⟨hk.1.2.2.1, ⟨hk.1.2.2.2.1, ⟨hk.1.2.2.2.2.1, ⟨hk.1.2.2.2.2.2.1, ⟨hk.1.2.2.2.2.2.2.1, hk.1.2.2.2.2.2.2.2⟩⟩⟩⟩⟩⟩⟩)))⟩; have n1_ : Aside0 (Kd.V k56 56 w113 w.heap.size (fun k_ => ((av k_ ∨ aw k_ ∨ ax k_) ∨ w.heap.size ≤ k_) ∧ some k_ ≠ (.slice aT aJ.length aU : Value).ownBlock ∧ some k_ ≠ (.slice (some aY) ad.length aD : Value).ownBlock ∧ k_ ≠ af ∧ k_ ≠ ag ∧ k_ ≠ ab ∧ k_ ≠ ap ∧ k_ ≠ an) (.slice aE ao.length aG) ao) := ⟨(by rw [hw]; exact (fV aj.out (fun k_ hk => (⟨hk, hk.2.2.2.2.2.2.2⟩ : _ ∧ k_ ≠ an)) (fun _ hk => ⟨hk.1.1, ⟨hk.1.2.1, ⟨hk.1.2.2.1, ⟨hk.1.2.2.2.1, ⟨hk.1.2.2.2.2.1, ⟨hk.1.2.2.2.2.2.1, ⟨hk.1.2.2.2.2.2.2.1, hk.1.2.2.2.2.2.2.2⟩⟩⟩⟩⟩⟩⟩)))⟩; have n2_ : Aside0 (Kd.V k68 68 w113 w.heap.size (fun k_ => ((av k_ ∨ aw k_ ∨ ax k_) ∨ w.heap.size ≤ k_) ∧ some k_ ≠ (.slice aT aJ.length aU : Value).ownBlock ∧ some k_ ≠ (.slice (some aY) ad.length aD : Value).ownBlock ∧ k_ ≠ af ∧ k_ ≠ ag ∧ k_ ≠ ab ∧ k_ ≠ ap ∧ k_ ≠ an) (.slice aH aq.length aI) aq) := ⟨(by rw [hw]; exact (fV al.out (fun k_ hk => (⟨hk, hk.2.2.2.2.2.2.2⟩ : _ ∧ k_ ≠ an)) (fun _ hk => ⟨hk.1.1, ⟨hk.1.2.1, ⟨hk.1.2.2.1, ⟨hk.1.2.2.2.1, ⟨hk.1.2.2.2.2.1, ⟨hk.1.2.2.2.2.2.1, ⟨hk.1.2.2.2.2.2.2.1, hk.1.2.2.2.2.2.2.2⟩⟩⟩⟩⟩⟩⟩)))⟩; have n3_ : Aside0 (Kd.V k51 51 w113 w.heap.size (fun k_ => ((av k_ ∨ aw k_ ∨ ax k_) ∨ w.heap.size ≤ k_) ∧ some k_ ≠ (.slice aT aJ.length aU : Value).ownBlock ∧ some k_ ≠ (.slice (some aY) ad.length aD : Value).ownBlock ∧ k_ ≠ af ∧ k_ ≠ ag ∧ k_ ≠ ab ∧ k_ ≠ ap ∧ k_ ≠ an) (.slice bO bF.length bP) bF) := ⟨(by rw [hw]; exact (fV be.out (fun k_ hk => (⟨hk, hk.2.2.2.2.2.2.2⟩ : _ ∧ k_ ≠ an)) (fun _ hk => ⟨hk.1.1, ⟨hk.1.2.1, ⟨hk.1.2.2.1, ⟨hk.1.2.2.2.1, ⟨hk.1.2.2.2.2.1, ⟨hk.1.2.2.2.2.2.1, ⟨hk.1.2.2.2.2.2.2.1, hk.1.2.2.2.2.2.2.2⟩⟩⟩⟩⟩⟩⟩)))⟩; have n4_ : Aside0 (Kd.R k56 56 w113 w.heap.size (fun k_ => (w.heap.size ≤ k_)) (.slice aT aJ.length aU) aJ) := ⟨(by rw [hw]; exact (zR (Kd.R_mono (Kd.R_far (p := ⟨an, 4, none⟩) (Kd.R_types bb.out bm.out (by decide)) (fun _ hk => hk.2) (.int .u64 a1_5)) (fun _ hk => hk.1))))⟩; have n5_ : Aside0 (Kd.V k68 68 w113 w.heap.size (fun k_ => ((av k_ ∨ aw k_ ∨ ax k_) ∨ w.heap.size ≤ k_) ∧ some k_ ≠ (.slice aT aJ.length aU : Value).ownBlock ∧ some k_ ≠ (.slice (some aY) ad.length aD : Value).ownBlock ∧ k_ ≠ af ∧ k_ ≠ ag ∧ k_ ≠ ab ∧ k_ ≠ ap ∧ k_ ≠ an) (.slice bt bi.length bu) bi) := ⟨(by rw [hw]; exact (fV bc.out (fun k_ hk => (⟨hk, hk.2.2.2.2.2.2.2⟩ : _ ∧ k_ ≠ an)) (fun _ hk => ⟨hk.1.1, ⟨hk.1.2.1, ⟨hk.1.2.2.1, ⟨hk.1.2.2.2.1, ⟨hk.1.2.2.2.2.1, ⟨hk.1.2.2.2.2.2.1, ⟨hk.1.2.2.2.2.2.2.1, hk.1.2.2.2.2.2.2.2⟩⟩⟩⟩⟩⟩⟩)))⟩; have n6_ : Aside0 (Kd.R k51 51 w113 w.heap.size (fun k_ => (w.heap.size ≤ k_) ∧ k_ ≠ an) (.slice (some aY) ad.length aD) ad) := ⟨(by rw [hw]; exact (fR aZ.out (fun k_ hk => (⟨hk, hk.2⟩ : _ ∧ k_ ≠ an)) (fun _ hk => ⟨hk.1.1, hk.1.2⟩)))⟩; have n7_ : Aside0 (w113.heap[af]? = some (.cells #[.int .i64 au, .slice aA ac.length ay, .slice aE ao.length aG, .slice aH aq.length aI] 46 (0, 0))) := ⟨(by rw [hw]; exact (fB bR.out ae.out))⟩; have n8_ : Aside0 (w113.heap[ag]? = some (.cells #[.int .i64 a1_0, .int .i64 a1_1, .int .i64 a1_2, .int .u32 a1_3, .string a1_4, .int .u64 a1_5, .int .u64 a1_6, .int .i64 a1_7, .int .i64 a1_8] 35 (0, 0))) := ⟨(by rw [hw]; exact (fB bS.out ah.out))⟩; have n9_ : Aside0 (w113.heap[ab]? = some (.cells #[.int .i64 0, .slice none 0 0, .slice none 0 0, .slice none 0 0] 46 (0, 0))) := ⟨(by rw [hw]; exact (fB bT.out am.out))⟩; have n10_ : Aside0 (w113.heap[ap]? = some (.cells #[.int .i64 bh, .slice (some aY) ad.length aD, .slice aT aJ.length aU, .slice bt bi.length bu] 46 (0, 0))) := ⟨(by rw [hw]; exact (fB bU.out aX.out))⟩; have n11_ : Aside0 (w113.heap[an]? = some (.cells #[.int .i64 ((rd_T51 ad aa).f0), .int .i64 ((rd_T51 ad aa).f1), .int .u32 ((rd_T51 ad aa).f2), .string ((rd_T51 ad aa).f3), .int .u64 a1_5, .int .u64 ((rd_T51 ad aa).f5)] 51 (0, 0))) := ⟨(by rw [hw]; exact (by (with_reducible repeat (first | refine qN ?_ _ | refine qD ?_ | refine qA ?_ _)); refine blk_put (cs := #[.int .i64 ((rd_T51 ad aa).f0), .int .i64 ((rd_T51 ad aa).f1), .int .u32 ((rd_T51 ad aa).f2), .string ((rd_T51 ad aa).f3), .int .u64 ((rd_T51 ad aa).f4), .int .u64 ((rd_T51 ad aa).f5)]) ?_ 4 _ rfl; (with_reducible repeat (first | refine qN ?_ _ | refine qD ?_ | refine qA ?_ _)); exact bm.out))⟩; have n12_ : Aside0 (Below w.heap.size w w113) := ⟨(by rw [hw]; exact (by repeat (first | (with_reducible first | exact HB.out | apply pA | apply pN | apply pD | refine pS ?_ ar.out | refine pS ?_ az.out | refine pS ?_ aC.out | refine pS ?_ bE.out | refine pS ?_ b6.out) | exact HB.out)))⟩; clear hw; clear ai; clear aj; clear al; clear be; clear bb; clear bc; clear aZ; clear ae; clear ah; clear am; clear aX; clear bm; clear HB; have ai := n0_; have aj := n1_; have al := n2_; have be := n3_; have bb := n4_; have bc := n5_; have aZ := n6_; have ae := n7_; have ah := n8_; have am := n9_; have aX := n10_; have bm := n11_; have HB := n12_; clear n0_ n1_ n2_ n3_ n4_ n5_ n6_ n7_ n8_ n9_ n10_ n11_ n12_; obtain ⟨e4, e5, e6, e7, e8, e9, fa, fb, fc, fd, fe, ff, fg, fh, fi, fj, fk, fl⟩ := bk9 ah.out; obtain ⟨fm, fn, fo, fp, fq, fr, fs, ft, fu, fv, fw, fx⟩ := bk6 bm.out) | ((with_reducible refine gate_store (t := 22) (p := 100) rfl ?_); refine store_event (t := 22) (p := 100) (v := ?vo_w116) (w1 := (w113.setCell ⟨an, 5, none⟩ (.int .u64 a1_6))) ?hg ?ho ?hn ?hr ?_; (case ho => rfl); (case hg => rfl); (case hn => rfl); (case hr => first | (go_simp; done) | (go_simp; rfl)); intro w116 hw; have n0_ : Aside0 (Kd.V k51 51 w116 w.heap.size (fun k_ => ((av k_ ∨ aw k_ ∨ ax k_) ∨ w.heap.size ≤ k_) ∧ some k_ ≠ (.slice aT aJ.length aU : Value).ownBlock ∧ some k_ ≠ (.slice (some aY) ad.length aD : Value).ownBlock ∧ k_ ≠ af ∧ k_ ≠ ag ∧ k_ ≠ ab ∧ k_ ≠ ap ∧ k_ ≠ an) (.slice aA ac.length ay) ac) := ⟨(by rw [hw]; exact (fV ai.out (fun k_ hk => (⟨hk, hk.2.2.2.2.2.2.2⟩ : _ ∧ k_ ≠ an)) (fun _ hk => ⟨hk.1.1, ⟨hk.1.2.1, ⟨hk.1.2.2.1, ⟨hk.1.2.2.2.1, ⟨hk.1.2.2.2.2.1, ⟨hk.1.2.2.2.2.2.1, ⟨hk.1.2.2.2.2.2.2.1, hk.1.2.2.2.2.2.2.2⟩⟩⟩⟩⟩⟩⟩)))⟩; have n1_ : Aside0 (Kd.V k56 56 w116 w.heap.size (fun k_ => ((av k_ ∨ aw k_ ∨ ax k_) ∨ w.heap.size ≤ k_) ∧ some k_ ≠ (.slice aT aJ.length aU : Value).ownBlock ∧ some k_ ≠ (.slice (some aY) ad.length aD : Value).ownBlock ∧ k_ ≠ af ∧ k_ ≠ ag ∧ k_ ≠ ab ∧ k_ ≠ ap ∧ k_ ≠ an) (.slice aE ao.length aG) ao) := ⟨(by rw [hw]; exact (fV aj.out (fun k_ hk => (⟨hk, hk.2.2.2.2.2.2.2⟩ : _ ∧ k_ ≠ an)) (fun _ hk => ⟨hk.1.1, ⟨hk.1.2.1, ⟨hk.1.2.2.1, ⟨hk.1.2.2.2.1, ⟨hk.1.2.2.2.2.1, ⟨hk.1.2.2.2.2.2.1, ⟨hk.1.2.2.2.2.2.2.1, hk.1.2.2.2.2.2.2.2⟩⟩⟩⟩⟩⟩⟩)))⟩; have n2_ : Aside0 (Kd.V k68 68 w116 w.heap.size (fun k_ => ((av k_ ∨ aw k_ ∨ ax k_) ∨ w.heap.size ≤ k_) ∧ some k_ ≠ (.slice aT aJ.length aU : Value).ownBlock ∧ some k_ ≠ (.slice (some aY) ad.length aD : Value).ownBlock ∧ k_ ≠ af ∧ k_ ≠ ag ∧ k_ ≠ ab ∧ k_ ≠ ap ∧ k_ ≠ an) (.slice aH aq.length aI) aq) := ⟨(by rw [hw]; exact (fV al.out (fun k_ hk => (⟨hk, hk.2.2.2.2.2.2.2⟩ : _ ∧ k_ ≠ an)) (fun _ hk => ⟨hk.1.1, ⟨hk.1.2.1, ⟨hk.1.2.2.1, ⟨hk.1.2.2.2.1, ⟨hk.1.2.2.2.2.1, ⟨hk.1.2.2.2.2.2.1, ⟨hk.1.2.2.2.2.2.2.1, hk.1.2.2.2.2.2.2.2⟩⟩⟩⟩⟩⟩⟩)))⟩; have n3_ : Aside0 (Kd.V k51 51 w116 w.heap.size (fun k_ => ((av k_ ∨ aw k_ ∨ ax k_) ∨ w.heap.size ≤ k_) ∧ some k_ ≠ (.slice aT aJ.length aU : Value).ownBlock ∧ some k_ ≠ (.slice (some aY) ad.length aD : Value).ownBlock ∧ k_ ≠ af ∧ k_ ≠ ag ∧ k_ ≠ ab ∧ k_ ≠ ap ∧ k_ ≠ an) (.slice bO bF.length bP) bF) := ⟨(by rw [hw]; exact (fV be.out (fun k_ hk => (⟨hk, hk.2.2.2.2.2.2.2⟩ : _ ∧ k_ ≠ an)) (fun _ hk => ⟨hk.1.1, ⟨hk.1.2.1, ⟨hk.1.2.2.1, ⟨hk.1.2.2.2.1, ⟨hk.1.2.2.2.2.1, ⟨hk.1.2.2.2.2.2.1, ⟨hk.1.2.2.2.2.2.2.1, hk.1.2.2.2.2.2.2.2⟩⟩⟩⟩⟩⟩⟩)))⟩; have n4_ : Aside0 (Kd.R k56 56 w116 w.heap.size (fun k_ => (w.heap.size ≤ k_)) (.slice aT aJ.length aU) aJ) := ⟨(by rw [hw]; exact (zR (Kd.R_mono (Kd.R_far (p := ⟨an, 5, none⟩) (Kd.R_types bb.out bm.out (by decide)) (fun _ hk => hk.2) (.int .u64 a1_6)) (fun _ hk => hk.1))))⟩; have n5_ : Aside0 (Kd.V k68 68 w116 w.heap.size (fun k_ => ((av k_ ∨ aw k_ ∨ ax k_) ∨ w.heap.size ≤ k_) ∧ some k_ ≠ (.slice aT aJ.length aU : Value).ownBlock ∧ some k_ ≠ (.slice (some aY) ad.length aD : Value).ownBlock ∧ k_ ≠ af ∧ k_ ≠ ag ∧ k_ ≠ ab ∧ k_ ≠ ap ∧ k_ ≠ an) (.slice bt bi.length bu) bi) := ⟨(by rw [hw]; exact (fV bc.out (fun k_ hk => (⟨hk, hk.2.2.2.2.2.2.2⟩ : _ ∧ k_ ≠ an)) (fun _ hk => ⟨hk.1.1, ⟨hk.1.2.1, ⟨hk.1.2.2.1, ⟨hk.1.2.2.2.1, ⟨hk.1.2.2.2.2.1, ⟨hk.1.2.2.2.2.2.1, ⟨hk.1.2.2.2.2.2.2.1, hk.1.2.2.2.2.2.2.2⟩⟩⟩⟩⟩⟩⟩)))⟩; have n6_ : Aside0 (Kd.R k51 51 w116 w.heap.size (fun k_ => (w.heap.size ≤ k_) ∧ k_ ≠ an) (.slice (some aY) ad.length aD) ad) := ⟨(by rw [hw]; exact (fR aZ.out (fun k_ hk => (⟨hk, hk.2⟩ : _ ∧ k_ ≠ an)) (fun _ hk => ⟨hk.1.1, hk.1.2⟩)))⟩; have n7_ : Aside0 (w116.heap[af]? = some (.cells #[.int .i64 au, .slice aA ac.length ay, .slice aE ao.length aG, .slice aH aq.length aI] 46 (0, 0))) := ⟨(by rw [hw]; exact (fB bR.out ae.out))⟩; have n8_ : Aside0 (w116.heap[ag]? = some (.cells #[.int .i64 a1_0, .int .i64 a1_1, .int .i64 a1_2, .int .u32 a1_3, .string a1_4, .int .u64 a1_5, .int .u64 a1_6, .int .i64 a1_7, .int .i64 a1_8] 35 (0, 0))) := ⟨(by rw [hw]; exact (fB bS.out ah.out))⟩; have n9_ : Aside0 (w116.heap[ab]? = some (.cells #[.int .i64 0, .slice none 0 0, .slice none 0 0, .slice none 0 0] 46 (0, 0))) := ⟨(by rw [hw]; exact (fB bT.out am.out))⟩; have n10_ : Aside0 (w116.heap[ap]? = some (.cells #[.int .i64 bh, .slice (some aY) ad.length aD, .slice aT aJ.length aU, .slice bt bi.length bu] 46 (0, 0))) := ⟨(by rw [hw]; exact (fB bU.out aX.out))⟩; have n11_ : Aside0 (w116.heap[an]? = some (.cells #[.int .i64 ((rd_T51 ad aa).f0), .int .i64 ((rd_T51 ad aa).f1), .int .u32 ((rd_T51 ad aa).f2), .string ((rd_T51 ad aa).f3), .int .u64 a1_5, .int .u64 a1_6] 51 (0, 0))) := ⟨(by rw [hw]; exact (by (with_reducible repeat (first | refine qN ?_ _ | refine qD ?_ | refine qA ?_ _)); refine blk_put (cs := #[.int .i64 ((rd_T51 ad aa).f0), .int .i64 ((rd_T51 ad aa).f1), .int .u32 ((rd_T51 ad aa).f2), .string ((rd_T51 ad aa).f3), .int .u64 a1_5, .int .u64 ((rd_T51 ad aa).f5)]) ?_ 5 _ rfl; (with_reducible repeat (first | refine qN ?_ _ | refine qD ?_ | refine qA ?_ _)); exact bm.out))⟩; have n12_ : Aside0 (Below w.heap.size w w116) := ⟨(by rw [hw]; exact (by repeat (first | (with_reducible first | exact HB.out | apply pA | apply pN | apply pD | refine pS ?_ ar.out | refine pS ?_ az.out | refine pS ?_ aC.out | refine pS ?_ bE.out | refine pS ?_ b6.out) | exact HB.out)))⟩; clear hw; clear ai; clear aj; clear al; clear be; clear bb; clear bc; clear aZ; clear ae; clear ah; clear am; clear aX; clear bm; clear HB; have ai := n0_; have aj := n1_; have al := n2_; have be := n3_; have bb := n4_; have bc := n5_; have aZ := n6_; have ae := n7_; have ah := n8_; have am := n9_; have aX := n10_; have bm := n11_; have HB := n12_; clear n0_ n1_ n2_ n3_ n4_ n5_ n6_ n7_ n8_ n9_ n10_ n11_ n12_; obtain ⟨fy, fz, fA, fD, fE, fF, fG, fH⟩ := bk4 aX.out; obtain ⟨fI, fJ, fK, fL, fM, fN, fO, fP, fQ, fS, fT, fU⟩ := bk6 bm.out; have p83 : 0 ≤ (aa : Int) := of_decide_eq_true (by first | (with_reducible assumption) | assumption); have q83 : (aa : Int) < ((ad.length : Int) : Int) := of_decide_eq_true (by first | (with_reducible assumption) | assumption); obtain ⟨go83, jY, dH, dI, gl83, cl83, HG83⟩ := Kd.R_form aZ.out (by omega); (first | cases dH | (injection dH with ea_ en_ ec_; (first | subst ea_ | (injection ea_ with ea_; subst ea_)); subst ec_; clear en_)); have GB83 := Aside0.mk dI; have GG83 := Aside0.mk HG83; clear dI gl83 HG83; (first | simp only [add_plain] at hx373_0 | skip); (first | simp only [add_plain] at hx373_1 | skip); (first | simp only [add_plain] at hx373_2 | skip); (first | simp only [add_plain] at hx373_3 | skip); (first | simp only [add_plain] at hx373_4 | skip); (first | simp only [add_plain] at hx373_5 | skip); obtain ⟨ce83, hcl83, hM83, hcc83, hfr83⟩ := Kd.R_elem aZ.out z51 (aa : Int) p83 q83; obtain rfl := k51_openM hM83; have hx83_0 : w116.cell? ⟨go83, (aa : Int).toNat * 6, none⟩ = some (.int .i64 ((rd_T51 ad aa).f0)) := hcc83 0 _ rfl; have hx83_1 : w116.cell? ⟨go83, (aa : Int).toNat * 6 + 1, none⟩ = some (.int .i64 ((rd_T51 ad aa).f1)) := hcc83 1 _ rfl; have hx83_2 : w116.cell? ⟨go83, (aa : Int).toNat * 6 + 2, none⟩ = some (.int .u32 ((rd_T51 ad aa).f2)) := hcc83 2 _ rfl; have hx83_3 : w116.cell? ⟨go83, (aa : Int).toNat * 6 + 3, none⟩ = some (.string ((rd_T51 ad aa).f3)) := hcc83 3 _ rfl; have hx83_4 : w116.cell? ⟨go83, (aa : Int).toNat * 6 + 4, none⟩ = some (.int .u64 ((rd_T51 ad aa).f4)) := hcc83 4 _ rfl; have hx83_5 : w116.cell? ⟨go83, (aa : Int).toNat * 6 + 5, none⟩ = some (.int .u64 ((rd_T51 ad aa).f5)) := hcc83 5 _ rfl; have hf83_0 : w116.frozen? ⟨go83, (aa : Int).toNat * 6, none⟩ = false := hfr83 0; have hf83_1 : w116.frozen? ⟨go83, (aa : Int).toNat * 6 + 1, none⟩ = false := hfr83 1; have hf83_2 : w116.frozen? ⟨go83, (aa : Int).toNat * 6 + 2, none⟩ = false := hfr83 2; have hf83_3 : w116.frozen? ⟨go83, (aa : Int).toNat * 6 + 3, none⟩ = false := hfr83 3; have hf83_4 : w116.frozen? ⟨go83, (aa : Int).toNat * 6 + 4, none⟩ = false := hfr83 4; have hf83_5 : w116.frozen? ⟨go83, (aa : Int).toNat * 6 + 5, none⟩ = false := hfr83 5; clear hcl83 hcc83 hfr83 hM83; replace p83 := eq_true p83; replace q83 := eq_true q83; have HX119 := Aside0.mk (show Kd.R k51 51 w116 w.heap.size (fun k_ => (w.heap.size ≤ k_) ∧ k_ ≠ an) (.slice (some ⟨go83, 0, none⟩) ad.length aD) ad from (zR aZ.out)); obtain ⟨ce119, hcl119, hM119, hcc119, hfr119⟩ := Kd.R_elem HX119.out z51 (aa : Int) (of_decide_eq_true (by first | (with_reducible assumption) | assumption)) (by have h_ : (aa : Int) < ((ad.length : Int) : Int) := of_decide_eq_true (by first | (with_reducible assumption) | assumption); first | exact h_ | (have e_ := (Kd.R_reads' aZ.out).1; omega) | simpa using h_); obtain rfl := k51_openM hM119; have HP119 := Kd.R_seg HX119.out (aa : Int) (of_decide_eq_true (by first | (with_reducible assumption) | assumption)) (by have h_ : (aa : Int) < ((ad.length : Int) : Int) := of_decide_eq_true (by first | (with_reducible assumption) | assumption); first | exact h_ | (have e_ := (Kd.R_reads' aZ.out).1; omega) | simpa using h_) (seg := [.int .i64 ((rd_T51 ad aa).f0), .int .i64 ((rd_T51 ad aa).f1), .int .u32 ((rd_T51 ad aa).f2), .string ((rd_T51 ad aa).f3), .int .u64 a1_5, .int .u64 a1_6]) (j := 0) hcl119 hcc119 (show 6 ≤ 6 from by decide) (x' := (⟨(rd_T51 ad aa).f0, (rd_T51 ad aa).f1, (rd_T51 ad aa).f2, (rd_T51 ad aa).f3, a1_5, a1_6⟩ : S51)) (k51_mkM _ _ _ (⟨(rd_T51 ad aa).f0, (rd_T51 ad aa).f1, (rd_T51 ad aa).f2, (rd_T51 ad aa).f3, a1_5, a1_6⟩ : S51) ) (fun _ hk => hk); have hx119_0 := hcc119 0 _ rfl; (try simp only [show (k51).sz = 6 from rfl, Nat.mul_one, Nat.add_zero] at hx119_0); have hf119_0 := hfr119 0; (try simp only [show (k51).sz = 6 from rfl, Nat.mul_one, Nat.add_zero] at hf119_0); have hx119_1 := hcc119 1 _ rfl; (try simp only [show (k51).sz = 6 from rfl, Nat.mul_one, Nat.add_zero] at hx119_1); have hf119_1 := hfr119 1; (try simp only [show (k51).sz = 6 from rfl, Nat.mul_one, Nat.add_zero] at hf119_1); have hx119_2 := hcc119 2 _ rfl; (try simp only [show (k51).sz = 6 from rfl, Nat.mul_one, Nat.add_zero] at hx119_2); have hf119_2 := hfr119 2; (try simp only [show (k51).sz = 6 from rfl, Nat.mul_one, Nat.add_zero] at hf119_2); have hx119_3 := hcc119 3 _ rfl; (try simp only [show (k51).sz = 6 from rfl, Nat.mul_one, Nat.add_zero] at hx119_3); have hf119_3 := hfr119 3; (try simp only [show (k51).sz = 6 from rfl, Nat.mul_one, Nat.add_zero] at hf119_3); have hx119_4 := hcc119 4 _ rfl; (try simp only [show (k51).sz = 6 from rfl, Nat.mul_one, Nat.add_zero] at hx119_4); have hf119_4 := hfr119 4; (try simp only [show (k51).sz = 6 from rfl, Nat.mul_one, Nat.add_zero] at hf119_4); have hx119_5 := hcc119 5 _ rfl; (try simp only [show (k51).sz = 6 from rfl, Nat.mul_one, Nat.add_zero] at hx119_5); have hf119_5 := hfr119 5; (try simp only [show (k51).sz = 6 from rfl, Nat.mul_one, Nat.add_zero] at hf119_5); clear hcl119 hcc119 hfr119 hM119) | ((with_reducible refine gate_store (t := 51) (p := 105) rfl ?_); refine store_event (t := 51) (p := 105) (v := ?vo_w120) (w1 := ((((((w116.setCell ⟨go83, (aa : Int).toNat * 6, none⟩ (.int .i64 ((rd_T51 ad aa).f0))).setCell ⟨go83, (aa : Int).toNat * 6 + 1, none⟩ (.int .i64 ((rd_T51 ad aa).f1))).setCell ⟨go83, (aa : Int).toNat * 6 + 2, none⟩ (.int .u32 ((rd_T51 ad aa).f2))).setCell ⟨go83, (aa : Int).toNat * 6 + 3, none⟩ (.string ((rd_T51 ad aa).f3))).setCell ⟨go83, (aa : Int).toNat * 6 + 4, none⟩ (.int .u64 a1_5)).setCell ⟨go83, (aa : Int).toNat * 6 + 5, none⟩ (.int .u64 a1_6))) ?hg ?ho ?hn ?hr ?_; (case ho => rfl); (case hg => rfl); (case hn => rfl); (case hr => first | (go_simp; done) | (go_simp; rfl)); intro w120 hw; have hg : w116.grownBy w120 (some go83) := (by rw [hw]; exact HP119.2); have hp_ : Kd.R k51 51 w120 w.heap.size (fun k_ => (w.heap.size ≤ k_) ∧ k_ ≠ an) (.slice (some ⟨go83, 0, none⟩) ad.length aD) dG := (by rw [hw, dX.out]; exact HP119.1); clear HP119; have n0_ := Aside0.mk (Kd.V_afterv (v := (.slice (some ⟨go83, 0, none⟩) ad.length aD)) (v1 := (.slice (some ⟨go83, 0, none⟩) ad.length aD)) (ok := (fun k_ => ((av k_ ∨ aw k_ ∨ ax k_) ∨ w.heap.size ≤ k_) ∧ some k_ ≠ (.slice aT aJ.length aU : Value).ownBlock ∧ k_ ≠ af ∧ k_ ≠ ag ∧ k_ ≠ ab ∧ k_ ≠ ap ∧ k_ ≠ an)) (zV (Kd.V_mono ai.out (fun _ hk => ⟨⟨hk.1, ⟨hk.2.1, ⟨hk.2.2.2.1, ⟨hk.2.2.2.2.1, ⟨hk.2.2.2.2.2.1, ⟨hk.2.2.2.2.2.2.1, hk.2.2.2.2.2.2.2⟩⟩⟩⟩⟩⟩, hk.2.2.1⟩))) hg (.inl rfl)); have n1_ := Aside0.mk (Kd.V_afterv (v := (.slice (some ⟨go83, 0, none⟩) ad.length aD)) (v1 := (.slice (some ⟨go83, 0, none⟩) ad.length aD)) (ok := (fun k_ => ((av k_ ∨ aw k_ ∨ ax k_) ∨ w.heap.size ≤ k_) ∧ some k_ ≠ (.slice aT aJ.length aU : Value).ownBlock ∧ k_ ≠ af ∧ k_ ≠ ag ∧ k_ ≠ ab ∧ k_ ≠ ap ∧ k_ ≠ an)) (zV (Kd.V_mono aj.out (fun _ hk => ⟨⟨hk.1, ⟨hk.2.1, ⟨hk.2.2.2.1, ⟨hk.2.2.2.2.1, ⟨hk.2.2.2.2.2.1, ⟨hk.2.2.2.2.2.2.1, hk.2.2.2.2.2.2.2⟩⟩⟩⟩⟩⟩, hk.2.2.1⟩))) hg (.inl rfl)); have n2_ := Aside0.mk (Kd.V_afterv (v := (.slice (some ⟨go83, 0, none⟩) ad.length aD)) (v1 := (.slice (some ⟨go83, 0, none⟩) ad.length aD)) (ok := (fun k_ => ((av k_ ∨ aw k_ ∨ ax k_) ∨ w.heap.size ≤ k_) ∧ some k_ ≠ (.slice aT aJ.length aU : Value).ownBlock ∧ k_ ≠ af ∧ k_ ≠ ag ∧ k_ ≠ ab ∧ k_ ≠ ap ∧ k_ ≠ an)) (zV (Kd.V_mono al.out (fun _ hk => ⟨⟨hk.1, ⟨hk.2.1, ⟨hk.2.2.2.1, ⟨hk.2.2.2.2.1, ⟨hk.2.2.2.2.2.1, ⟨hk.2.2.2.2.2.2.1, hk.2.2.2.2.2.2.2⟩⟩⟩⟩⟩⟩, hk.2.2.1⟩))) hg (.inl rfl)); have n3_ := Aside0.mk (blk_grown (g := af) (o := .cells #[.int .i64 au, .slice aA ac.length ay, .slice aE ao.length aG, .slice aH aq.length aI] 46 (0, 0)) (zB ae.out) hg (Kd.R_ne aZ.out ae.out (by decide))); have n4_ := Aside0.mk (blk_grown (g := ag) (o := .cells #[.int .i64 a1_0, .int .i64 a1_1, .int .i64 a1_2, .int .u32 a1_3, .string a1_4, .int .u64 a1_5, .int .u64 a1_6, .int .i64 a1_7, .int .i64 a1_8] 35 (0, 0)) (zB ah.out) hg (Kd.R_ne aZ.out ah.out (by decide))); have n5_ := Aside0.mk (blk_grown (g := ab) (o := .cells #[.int .i64 0, .slice none 0 0, .slice none 0 0, .slice none 0 0] 46 (0, 0)) (zB am.out) hg (Kd.R_ne aZ.out am.out (by decide))); have n6_ := Aside0.mk (Kd.V_afterv (v := (.slice (some ⟨go83, 0, none⟩) ad.length aD)) (v1 := (.slice (some ⟨go83, 0, none⟩) ad.length aD)) (ok := (fun k_ => ((av k_ ∨ aw k_ ∨ ax k_) ∨ w.heap.size ≤ k_) ∧ some k_ ≠ (.slice aT aJ.length aU : Value).ownBlock ∧ k_ ≠ af ∧ k_ ≠ ag ∧ k_ ≠ ab ∧ k_ ≠ ap ∧ k_ ≠ an)) (zV (Kd.V_mono be.out (fun _ hk => ⟨⟨hk.1, ⟨hk.2.1, ⟨hk.2.2.2.1, ⟨hk.2.2.2.2.1, ⟨hk.2.2.2.2.2.1, ⟨hk.2.2.2.2.2.2.1, hk.2.2.2.2.2.2.2⟩⟩⟩⟩⟩⟩, hk.2.2.1⟩))) hg (.inl rfl)); have n7_ := Aside0.mk (Kd.R_over' (v := (.slice (some ⟨go83, 0, none⟩) ad.length aD)) (zR bb.out) (Kd.R_typed aZ.out) (by decide) hg); have n8_ := Aside0.mk (Kd.V_afterv (v := (.slice (some ⟨go83, 0, none⟩) ad.length aD)) (v1 := (.slice (some ⟨go83, 0, none⟩) ad.length aD)) (ok := (fun k_ => ((av k_ ∨ aw k_ ∨ ax k_) ∨ w.heap.size ≤ k_) ∧ some k_ ≠ (.slice aT aJ.length aU : Value).ownBlock ∧ k_ ≠ af ∧ k_ ≠ ag ∧ k_ ≠ ab ∧ k_ ≠ ap ∧ k_ ≠ an)) (zV (Kd.V_mono bc.out (fun _ hk => ⟨⟨hk.1, ⟨hk.2.1, ⟨hk.2.2.2.1, ⟨hk.2.2.2.2.1, ⟨hk.2.2.2.2.2.1, ⟨hk.2.2.2.2.2.2.1, hk.2.2.2.2.2.2.2⟩⟩⟩⟩⟩⟩, hk.2.2.1⟩))) hg (.inl rfl)); have n9_ := Aside0.mk (blk_grown (g := ap) (o := .cells #[.int .i64 bh, .slice (some ⟨go83, 0, none⟩) ad.length aD, .slice aT aJ.length aU, .slice bt bi.length bu] 46 (0, 0)) (zB aX.out) hg (Kd.R_ne aZ.out aX.out (by decide))); have n10_ := Aside0.mk (hp_); have n11_ := Aside0.mk (blk_grown (g := an) (o := .cells #[.int .i64 ((rd_T51 ad aa).f0), .int .i64 ((rd_T51 ad aa).f1), .int .u32 ((rd_T51 ad aa).f2), .string ((rd_T51 ad aa).f3), .int .u64 a1_5, .int .u64 a1_6] 51 (0, 0)) (zB bm.out) hg (Kd.R_away aZ.out (fun _ hk => hk.2))); have n12_ := Aside0.mk ((by rw [hw]; exact pS (pS (pS (pS (pS (pS (HB.out) GB83.out) GB83.out) GB83.out) GB83.out) GB83.out) GB83.out : Below w.heap.size w w120)); clear ai; clear aj; clear al; clear ae; clear ah; clear am; clear be; clear bb; clear bc; clear aX; clear aZ; clear bm; clear HB; have ai := n0_; have aj := n1_; have al := n2_; have ae := n3_; have ah := n4_; have am := n5_; have be := n6_; have bb := n7_; have bc := n8_; have aX := n9_; have aZ := n10_; have bm := n11_; have HB := n12_; clear n0_ n1_ n2_ n3_ n4_ n5_ n6_ n7_ n8_ n9_ n10_ n11_ n12_; clear hg hw hp_; obtain ⟨fW, fX, fY, fZ, f6, f7, f8, f9⟩ := bk4 aX.out; obtain ⟨ga, gb, gc, gd, ge, gf, gg, gh⟩ := bk4 am.out))
          refine bodyPost_ret (results_ct rfl _ _ ab 46 #[.int .i64 bh, .slice (some ⟨go83, 0, none⟩) ad.length aD, .slice aT aJ.length aU, .slice bt bi.length bu] (0, 0) _ rfl (by (with_reducible repeat (first | refine qN ?_ _ | refine qD ?_ | refine qA ?_ _)); refine blk_put (cs := #[.int .i64 bh, .slice (some ⟨go83, 0, none⟩) ad.length aD, .slice aT aJ.length aU, .slice none 0 0]) ?_ 3 _ rfl; (with_reducible repeat (first | refine qN ?_ _ | refine qD ?_ | refine qA ?_ _)); refine blk_put (cs := #[.int .i64 bh, .slice (some ⟨go83, 0, none⟩) ad.length aD, .slice none 0 0, .slice none 0 0]) ?_ 2 _ rfl; (with_reducible repeat (first | refine qN ?_ _ | refine qD ?_ | refine qA ?_ _)); refine blk_put (cs := #[.int .i64 bh, .slice none 0 0, .slice none 0 0, .slice none 0 0]) ?_ 1 _ rfl; (with_reducible repeat (first | refine qN ?_ _ | refine qD ?_ | refine qA ?_ _)); refine blk_put (cs := #[.int .i64 0, .slice none 0 0, .slice none 0 0, .slice none 0 0]) ?_ 0 _ rfl; (with_reducible repeat (first | refine qN ?_ _ | refine qD ?_ | refine qA ?_ _)); exact am.out) Try.underlying46 rfl (by kernel_rfl)) rfl ?_
          exact ⟨_, _, _, by first | rfl | (simp [errW_none, errW_some] <;> rfl) | (simp [*, errW_none, errW_some] <;> rfl), Kd.V_mono (Kd.R_V (zR (Kd.R_mono (Kd.R_far (p := ⟨ab, 3, none⟩) (Kd.R_far (p := ⟨ab, 2, none⟩) (Kd.R_far (p := ⟨ab, 1, none⟩) (Kd.R_far (p := ⟨ab, 0, none⟩) (Kd.R_types aZ.out am.out (by decide)) (fun _ hk => hk.2) (.int .i64 bh)) (fun _ hk => hk.2) (.slice (some ⟨go83, 0, none⟩) ad.length aD)) (fun _ hk => hk.2) (.slice aT aJ.length aU)) (fun _ hk => hk.2) (.slice bt bi.length bu)) (fun _ hk => hk.1.1)))) (fun k_ hk => by first | exact ⟨(.inr (hk.1)), hk.2⟩ | exact (.inr (hk))), Kd.V_mono (Kd.R_V (zR (Kd.R_mono (Kd.R_far (p := ⟨ab, 3, none⟩) (Kd.R_far (p := ⟨ab, 2, none⟩) (Kd.R_far (p := ⟨ab, 1, none⟩) (Kd.R_far (p := ⟨ab, 0, none⟩) (Kd.R_types bb.out am.out (by decide)) (fun _ hk => hk.2) (.int .i64 bh)) (fun _ hk => hk.2) (.slice (some ⟨go83, 0, none⟩) ad.length aD)) (fun _ hk => hk.2) (.slice aT aJ.length aU)) (fun _ hk => hk.2) (.slice bt bi.length bu)) (fun _ hk => hk.1)))) (fun k_ hk => by first | exact ⟨(.inr (hk.1)), hk.2⟩ | exact (.inr (hk))), (fV bc.out (fun k_ hk => (⟨hk, hk.1.2.2.2.2.1⟩ : _ ∧ k_ ≠ ab)) (fun _ hk => hk.1.1.1)), by repeat (first | (with_reducible first | exact HB.out | apply pA | apply pN | apply pD | refine pS ?_ ar.out | refine pS ?_ az.out | refine pS ?_ aC.out | refine pS ?_ bE.out | refine pS ?_ b6.out) | exact HB.out)⟩
         ·rw [if_neg c82] at H
          exact absurd H (by simp)
        ·rw [if_neg c81] at H
         exact absurd H (by simp)
       ·rw [if_neg c80] at H
        exact absurd H (by simp)

end Go.Proofs.Ytlimlbhhbjaljaa.Q

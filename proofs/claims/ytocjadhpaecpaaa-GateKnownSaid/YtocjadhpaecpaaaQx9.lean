-- written by this session's own program (wip/tools/myprint.py), over the kit's print
import Derived.Test.YtocjadhpaecpaaaQx0
import Derived.Test.YtocjadhpaecpaaaQx8
namespace Go.Proofs.Ytocjadhpaecpaaa.Q
open Go.RowKit Go.Proofs.YtocjadhpaecpaaaW.PrintWords Go.Proofs.YtocjadhpaecpaaaW.PrintLast Go.Proofs.YtocjadhpaecpaaaW.PrintMore
open Go.Proofs.YtocjadhpaecpaaaV
attribute [local go_sem] max2_int min2_int max_two min_two max_three min_three max_four min_four   -- for this text's walks alone
set_option linter.unusedVariables false
set_option linter.unusedSimpArgs false

/-! ### portreeveref04_open: function 26 -/
mutual
def portreeveref04_open.l0 : Nat → Int → Int → List (S76) → List (S72) → List (S64) → Option (Bool)
 | 0, _, _, _, _, _ => none
 | k + 1, x3, x157000, x157001, x157002, x157003 => if x3 < (x157001.length : Int) then (if 0 ≤ x3 then ((portreeveref04_name.f ((rd_T76 x157001 x3).f3)).bind fun t159 => ((portreeveref04_pool.f ((rd_T76 x157001 x3).f2)).bind fun t160 => (if ((rd_T76 x157001 x3).f0) < 0 then (portreeveref04_open.j1 k x3 true x157000 x157001 x157002 x157003 ((rd_T76 x157001 x3).f0) ((rd_T76 x157001 x3).f1) ((rd_T76 x157001 x3).f2) ((rd_T76 x157001 x3).f3) ((rd_T76 x157001 x3).f4) ((rd_T76 x157001 x3).f5)) else (if ((rd_T76 x157001 x3).f0) ≥ x157000 then (portreeveref04_open.j1 k x3 true x157000 x157001 x157002 x157003 ((rd_T76 x157001 x3).f0) ((rd_T76 x157001 x3).f1) ((rd_T76 x157001 x3).f2) ((rd_T76 x157001 x3).f3) ((rd_T76 x157001 x3).f4) ((rd_T76 x157001 x3).f5)) else (if x3 > 0 then (if 0 ≤ (wrap64 (x3 - 1)) then (if (wrap64 (x3 - 1)) < (x157001.length : Int) then (if ((rd_T76 x157001 (wrap64 (x3 - 1))).f0) ≥ ((rd_T76 x157001 x3).f0) then (portreeveref04_open.j1 k x3 true x157000 x157001 x157002 x157003 ((rd_T76 x157001 x3).f0) ((rd_T76 x157001 x3).f1) ((rd_T76 x157001 x3).f2) ((rd_T76 x157001 x3).f3) ((rd_T76 x157001 x3).f4) ((rd_T76 x157001 x3).f5)) else (if ((rd_T76 x157001 x3).f1) < 0 then (portreeveref04_open.j1 k x3 true x157000 x157001 x157002 x157003 ((rd_T76 x157001 x3).f0) ((rd_T76 x157001 x3).f1) ((rd_T76 x157001 x3).f2) ((rd_T76 x157001 x3).f3) ((rd_T76 x157001 x3).f4) ((rd_T76 x157001 x3).f5)) else (if ((rd_T76 x157001 x3).f1) > 7 then (portreeveref04_open.j1 k x3 true x157000 x157001 x157002 x157003 ((rd_T76 x157001 x3).f0) ((rd_T76 x157001 x3).f1) ((rd_T76 x157001 x3).f2) ((rd_T76 x157001 x3).f3) ((rd_T76 x157001 x3).f4) ((rd_T76 x157001 x3).f5)) else (if t159 = true then (portreeveref04_open.j1 k x3 (!t160) x157000 x157001 x157002 x157003 ((rd_T76 x157001 x3).f0) ((rd_T76 x157001 x3).f1) ((rd_T76 x157001 x3).f2) ((rd_T76 x157001 x3).f3) ((rd_T76 x157001 x3).f4) ((rd_T76 x157001 x3).f5)) else (portreeveref04_open.j1 k x3 true x157000 x157001 x157002 x157003 ((rd_T76 x157001 x3).f0) ((rd_T76 x157001 x3).f1) ((rd_T76 x157001 x3).f2) ((rd_T76 x157001 x3).f3) ((rd_T76 x157001 x3).f4) ((rd_T76 x157001 x3).f5)))))) else (none)) else (none)) else (if ((rd_T76 x157001 x3).f1) < 0 then (portreeveref04_open.j1 k x3 true x157000 x157001 x157002 x157003 ((rd_T76 x157001 x3).f0) ((rd_T76 x157001 x3).f1) ((rd_T76 x157001 x3).f2) ((rd_T76 x157001 x3).f3) ((rd_T76 x157001 x3).f4) ((rd_T76 x157001 x3).f5)) else (if ((rd_T76 x157001 x3).f1) > 7 then (portreeveref04_open.j1 k x3 true x157000 x157001 x157002 x157003 ((rd_T76 x157001 x3).f0) ((rd_T76 x157001 x3).f1) ((rd_T76 x157001 x3).f2) ((rd_T76 x157001 x3).f3) ((rd_T76 x157001 x3).f4) ((rd_T76 x157001 x3).f5)) else (if t159 = true then (portreeveref04_open.j1 k x3 (!t160) x157000 x157001 x157002 x157003 ((rd_T76 x157001 x3).f0) ((rd_T76 x157001 x3).f1) ((rd_T76 x157001 x3).f2) ((rd_T76 x157001 x3).f3) ((rd_T76 x157001 x3).f4) ((rd_T76 x157001 x3).f5)) else (portreeveref04_open.j1 k x3 true x157000 x157001 x157002 x157003 ((rd_T76 x157001 x3).f0) ((rd_T76 x157001 x3).f1) ((rd_T76 x157001 x3).f2) ((rd_T76 x157001 x3).f3) ((rd_T76 x157001 x3).f4) ((rd_T76 x157001 x3).f5)))))))))) else (none)) else (some true)
def portreeveref04_open.j1 : Nat → Int → Bool → Int → List (S76) → List (S72) → List (S64) → Int → Int → Int → ByteArray → Int → Int → Option (Bool)
 | 0, _, _, _, _, _, _, _, _, _, _, _, _ => none
 | k + 1, x3, x69, x157000, x157001, x157002, x157003, x159000, x159001, x159002, x159003, x159004, x159005 => if x69 = true then (some false) else (portreeveref04_open.l1 k x3 0 x157000 x157001 x157002 x157003 x159000 x159001 x159002 x159003 x159004 x159005)
def portreeveref04_open.l1 : Nat → Int → Int → Int → List (S76) → List (S72) → List (S64) → Int → Int → Int → ByteArray → Int → Int → Option (Bool)
 | 0, _, _, _, _, _, _, _, _, _, _, _, _ => none
 | k + 1, x3, x7, x157000, x157001, x157002, x157003, x159000, x159001, x159002, x159003, x159004, x159005 => if x7 < x3 then (if 0 ≤ x7 then (if x7 < (x157001.length : Int) then (if ((rd_T76 x157001 x7).f1) = x159001 then (portreeveref04_open.j3 k x3 x7 true x157000 x157001 x157002 x157003 x159000 x159001 x159002 x159003 x159004 x159005) else (portreeveref04_open.j3 k x3 x7 (((rd_T76 x157001 x7).f2) == x159002) x157000 x157001 x157002 x157003 x159000 x159001 x159002 x159003 x159004 x159005)) else (none)) else (none)) else (portreeveref04_open.l0 k (wrap64 (x3 + 1)) x157000 x157001 x157002 x157003)
def portreeveref04_open.j3 : Nat → Int → Int → Bool → Int → List (S76) → List (S72) → List (S64) → Int → Int → Int → ByteArray → Int → Int → Option (Bool)
 | 0, _, _, _, _, _, _, _, _, _, _, _, _, _ => none
 | k + 1, x3, x7, x94, x157000, x157001, x157002, x157003, x159000, x159001, x159002, x159003, x159004, x159005 => if x94 = true then (some false) else (portreeveref04_open.l1 k x3 (wrap64 (x7 + 1)) x157000 x157001 x157002 x157003 x159000 x159001 x159002 x159003 x159004 x159005)
end
def portreeveref04_open.f (k : Nat) (a0_0 : Int) (l0_1 : List (S76)) (l0_2 : List (S72)) (l0_3 : List (S64)) : Option (Bool) := portreeveref04_open.l0 k 0 a0_0 l0_1 l0_2 l0_3
theorem portreeveref04_open.mono_l : ∀ k, (∀ y0 y1 y2 y3 y4, LeO (portreeveref04_open.l0 k y0 y1 y2 y3 y4) (portreeveref04_open.l0 (k + 1) y0 y1 y2 y3 y4)) ∧ (∀ y0 y1 y2 y3 y4 y5 y6 y7 y8 y9 y10 y11, LeO (portreeveref04_open.j1 k y0 y1 y2 y3 y4 y5 y6 y7 y8 y9 y10 y11) (portreeveref04_open.j1 (k + 1) y0 y1 y2 y3 y4 y5 y6 y7 y8 y9 y10 y11)) ∧ (∀ y0 y1 y2 y3 y4 y5 y6 y7 y8 y9 y10 y11, LeO (portreeveref04_open.l1 k y0 y1 y2 y3 y4 y5 y6 y7 y8 y9 y10 y11) (portreeveref04_open.l1 (k + 1) y0 y1 y2 y3 y4 y5 y6 y7 y8 y9 y10 y11)) ∧ (∀ y0 y1 y2 y3 y4 y5 y6 y7 y8 y9 y10 y11 y12, LeO (portreeveref04_open.j3 k y0 y1 y2 y3 y4 y5 y6 y7 y8 y9 y10 y11 y12) (portreeveref04_open.j3 (k + 1) y0 y1 y2 y3 y4 y5 y6 y7 y8 y9 y10 y11 y12))
 | 0 => ⟨fun _ _ _ _ _ r h => by simp [portreeveref04_open.l0] at h, fun _ _ _ _ _ _ _ _ _ _ _ _ r h => by simp [portreeveref04_open.j1] at h, fun _ _ _ _ _ _ _ _ _ _ _ _ r h => by simp [portreeveref04_open.l1] at h, fun _ _ _ _ _ _ _ _ _ _ _ _ _ r h => by simp [portreeveref04_open.j3] at h⟩
 | k + 1 => by
  obtain ⟨ih0, ih1, ih2, ih3⟩ := portreeveref04_open.mono_l k
  refine ⟨?_, ?_, ?_, ?_⟩
  ·intro y0 y1 y2 y3 y4
   unfold portreeveref04_open.l0
   repeat' first
   | (with_reducible exact ih0 _ _ _ _ _)
   | (with_reducible exact ih1 _ _ _ _ _ _ _ _ _ _ _ _)
   | (with_reducible exact ih2 _ _ _ _ _ _ _ _ _ _ _ _)
   | (with_reducible exact ih3 _ _ _ _ _ _ _ _ _ _ _ _ _)
   | (with_reducible exact LeO.refl _)
   | (with_reducible exact LeO.none _)
   | (with_reducible refine LeO.ite ?_ ?_)
   | (with_reducible refine LeO.bind ?_ (fun _ => ?_))
   | exact ih0 _ _ _ _ _
   | exact ih1 _ _ _ _ _ _ _ _ _ _ _ _
   | exact ih2 _ _ _ _ _ _ _ _ _ _ _ _
   | exact ih3 _ _ _ _ _ _ _ _ _ _ _ _ _
   | exact LeO.none _
   | refine LeO.ite ?_ ?_
   | refine LeO.bind ?_ (fun _ => ?_)
  ·intro y0 y1 y2 y3 y4 y5 y6 y7 y8 y9 y10 y11
   unfold portreeveref04_open.j1
   repeat' first
   | (with_reducible exact ih0 _ _ _ _ _)
   | (with_reducible exact ih1 _ _ _ _ _ _ _ _ _ _ _ _)
   | (with_reducible exact ih2 _ _ _ _ _ _ _ _ _ _ _ _)
   | (with_reducible exact ih3 _ _ _ _ _ _ _ _ _ _ _ _ _)
   | (with_reducible exact LeO.refl _)
   | (with_reducible exact LeO.none _)
   | (with_reducible refine LeO.ite ?_ ?_)
   | (with_reducible refine LeO.bind ?_ (fun _ => ?_))
   | exact ih0 _ _ _ _ _
   | exact ih1 _ _ _ _ _ _ _ _ _ _ _ _
   | exact ih2 _ _ _ _ _ _ _ _ _ _ _ _
   | exact ih3 _ _ _ _ _ _ _ _ _ _ _ _ _
   | exact LeO.none _
   | refine LeO.ite ?_ ?_
   | refine LeO.bind ?_ (fun _ => ?_)
  ·intro y0 y1 y2 y3 y4 y5 y6 y7 y8 y9 y10 y11
   unfold portreeveref04_open.l1
   repeat' first
   | (with_reducible exact ih0 _ _ _ _ _)
   | (with_reducible exact ih1 _ _ _ _ _ _ _ _ _ _ _ _)
   | (with_reducible exact ih2 _ _ _ _ _ _ _ _ _ _ _ _)
   | (with_reducible exact ih3 _ _ _ _ _ _ _ _ _ _ _ _ _)
   | (with_reducible exact LeO.refl _)
   | (with_reducible exact LeO.none _)
   | (with_reducible refine LeO.ite ?_ ?_)
   | (with_reducible refine LeO.bind ?_ (fun _ => ?_))
   | exact ih0 _ _ _ _ _
   | exact ih1 _ _ _ _ _ _ _ _ _ _ _ _
   | exact ih2 _ _ _ _ _ _ _ _ _ _ _ _
   | exact ih3 _ _ _ _ _ _ _ _ _ _ _ _ _
   | exact LeO.none _
   | refine LeO.ite ?_ ?_
   | refine LeO.bind ?_ (fun _ => ?_)
  ·intro y0 y1 y2 y3 y4 y5 y6 y7 y8 y9 y10 y11 y12
   unfold portreeveref04_open.j3
   repeat' first
   | (with_reducible exact ih0 _ _ _ _ _)
   | (with_reducible exact ih1 _ _ _ _ _ _ _ _ _ _ _ _)
   | (with_reducible exact ih2 _ _ _ _ _ _ _ _ _ _ _ _)
   | (with_reducible exact ih3 _ _ _ _ _ _ _ _ _ _ _ _ _)
   | (with_reducible exact LeO.refl _)
   | (with_reducible exact LeO.none _)
   | (with_reducible refine LeO.ite ?_ ?_)
   | (with_reducible refine LeO.bind ?_ (fun _ => ?_))
   | exact ih0 _ _ _ _ _
   | exact ih1 _ _ _ _ _ _ _ _ _ _ _ _
   | exact ih2 _ _ _ _ _ _ _ _ _ _ _ _
   | exact ih3 _ _ _ _ _ _ _ _ _ _ _ _ _
   | exact LeO.none _
   | refine LeO.ite ?_ ?_
   | refine LeO.bind ?_ (fun _ => ?_)
theorem portreeveref04_open.mono : ∀ a0 a1 a2 a3 k, LeO (portreeveref04_open.f k a0 a1 a2 a3) (portreeveref04_open.f (k + 1) a0 a1 a2 a3) := by
 intro a0 a1 a2 a3 k
 obtain ⟨ih0, ih1, ih2, ih3⟩ := portreeveref04_open.mono_l k
 unfold portreeveref04_open.f
 repeat' first
   | (with_reducible exact ih0 _ _ _ _ _)
   | (with_reducible exact ih1 _ _ _ _ _ _ _ _ _ _ _ _)
   | (with_reducible exact ih2 _ _ _ _ _ _ _ _ _ _ _ _)
   | (with_reducible exact ih3 _ _ _ _ _ _ _ _ _ _ _ _ _)
   | (with_reducible exact LeO.refl _)
   | (with_reducible exact LeO.none _)
   | (with_reducible refine LeO.ite ?_ ?_)
   | (with_reducible refine LeO.bind ?_ (fun _ => ?_))
   | exact ih0 _ _ _ _ _
   | exact ih1 _ _ _ _ _ _ _ _ _ _ _ _
   | exact ih2 _ _ _ _ _ _ _ _ _ _ _ _
   | exact ih3 _ _ _ _ _ _ _ _ _ _ _ _ _
   | exact LeO.none _
   | refine LeO.ite ?_ ?_
   | refine LeO.bind ?_ (fun _ => ?_)
set_option maxHeartbeats 8000000 in
set_option maxRecDepth 100000 in
theorem portreeveref04_open.calls (k : Nat) (a0_0 : Int) (A0_1 : Option Addr) (c0_1 : Nat) (l0_1 : List (S76)) (A0_2 : Option Addr) (c0_2 : Nat) (l0_2 : List (S72)) (A0_3 : Option Addr) (c0_3 : Nat) (l0_3 : List (S64)) (r : Bool) (w : World) (hr0_1 : Kd.C k76 w A0_1 l0_1.length l0_1) (hc0_1 : l0_1.length ≤ c0_1) (hr0_2 : Kd.C k72 w A0_2 l0_2.length l0_2) (hc0_2 : l0_2.length ≤ c0_2) (hr0_3 : Kd.C k64 w A0_3 l0_3.length l0_3) (hc0_3 : l0_3.length ≤ c0_3) (h : portreeveref04_open.f k a0_0 l0_1 l0_2 l0_3 = some r) :
  Calls Try.prog 26 #[.agg #[.int .i64 a0_0, .slice A0_1 l0_1.length c0_1, .slice A0_2 l0_2.length c0_2, .slice A0_3 l0_3.length c0_3]] w fun e w' => e = .returned (.bool r) ∧ Below w.heap.size w w' := by
 have hu26 := Try.underlying26
 have hu76 := Try.underlying76
 have HR0_1 := Aside0.mk hr0_1
 have HC0_1 := Aside0.mk hc0_1
 clear hr0_1 hc0_1
 have HR0_2 := Aside0.mk hr0_2
 have HC0_2 := Aside0.mk hc0_2
 clear hr0_2 hc0_2
 have HR0_3 := Aside0.mk hr0_3
 have HC0_3 := Aside0.mk hc0_3
 clear hr0_3 hc0_3
 have HB := Aside0.mk (Below.refl w.heap.size w)
 have H : (portreeveref04_open.l0 k 0 a0_0 l0_1 l0_2 l0_3) = some r := h
 clear h
 have H' := Aside0.mk H
 clear H
 go_enter Try.func26, Try.ntmps26
 go_wp2_with (first | ((with_reducible refine gate_dst (N := 1) rfl ?_); refine box_event ?hg (N := 1) ?hd (cs := #[.int .i64 a0_0, .slice A0_1 l0_1.length c0_1, .slice A0_2 l0_2.length c0_2, .slice A0_3 l0_3.length c0_3]) (t := 26) ?hr ?_; (case hd => rfl); (case hg => rfl); (case hr => first | (go_simp; done) | (go_simp; rfl)); intro gb156 hg w2 hbox hb; have n0_ := Aside0.mk (below_step (zH HB.out) hb); have n1_ := Aside0.mk (hbox); have n2_ := Aside0.mk ((by rw [hg]; exact (below_size (zH HB.out)) : w.heap.size ≤ gb156)); have n3_ := Aside0.mk ((by rw [hg]; exact (below_size (zH HB.out)) : w.heap.size ≤ gb156)); clear HB; have HB := n0_; have BK156 := n1_; have GW156 := n2_; have GE156 := n3_; clear n0_ n1_ n2_ n3_; clear hb hbox hg))
 repeat (go_quiet (first | ((with_reducible refine gate_dst (N := 1) rfl ?_); refine box_event ?hg (N := 1) ?hd (cs := #[.int .i64 a0_0, .slice A0_1 l0_1.length c0_1, .slice A0_2 l0_2.length c0_2, .slice A0_3 l0_3.length c0_3]) (t := 26) ?hr ?_; (case hd => rfl); (case hg => rfl); (case hr => first | (go_simp; done) | (go_simp; rfl)); intro gb156 hg w2 hbox hb; have n0_ := Aside0.mk (below_step (zH HB.out) hb); have n1_ := Aside0.mk (hbox); have n2_ := Aside0.mk ((by rw [hg]; exact (below_size (zH HB.out)) : w.heap.size ≤ gb156)); have n3_ := Aside0.mk ((by rw [hg]; exact (below_size (zH HB.out)) : w.heap.size ≤ gb156)); clear HB; have HB := n0_; have BK156 := n1_; have GW156 := n2_; have GE156 := n3_; clear n0_ n1_ n2_ n3_; clear hb hbox hg)); try go_wp2_with (first | ((with_reducible refine gate_dst (N := 1) rfl ?_); refine box_event ?hg (N := 1) ?hd (cs := #[.int .i64 a0_0, .slice A0_1 l0_1.length c0_1, .slice A0_2 l0_2.length c0_2, .slice A0_3 l0_3.length c0_3]) (t := 26) ?hr ?_; (case hd => rfl); (case hg => rfl); (case hr => first | (go_simp; done) | (go_simp; rfl)); intro gb156 hg w2 hbox hb; have n0_ := Aside0.mk (below_step (zH HB.out) hb); have n1_ := Aside0.mk (hbox); have n2_ := Aside0.mk ((by rw [hg]; exact (below_size (zH HB.out)) : w.heap.size ≤ gb156)); have n3_ := Aside0.mk ((by rw [hg]; exact (below_size (zH HB.out)) : w.heap.size ≤ gb156)); clear HB; have HB := n0_; have BK156 := n1_; have GW156 := n2_; have GE156 := n3_; clear n0_ n1_ n2_ n3_; clear hb hbox hg)))
 go_loopg [3] k (fun kq v3 w' => ∃ (x3_1 : Int), v3 = .int .i64 x3_1 ∧ Aside0 (portreeveref04_open.l0 kq x3_1 a0_0 l0_1 l0_2 l0_3 = some r) ∧ Aside0 (kq ≤ k) ∧ Aside0 (w'.heap[gb156]? = some (.cells #[.int .i64 a0_0, (.slice A0_1 l0_1.length c0_1), (.slice A0_2 l0_2.length c0_2), (.slice A0_3 l0_3.length c0_3)] 26 (0, 0))) ∧ Aside0 (Below w.heap.size w w'))
 case atStart => exact ⟨(0), (by first | rfl | (simp; done) | (simp [*]; done)), H', ⟨Nat.le_refl _⟩, ⟨zB BK156.out⟩, ⟨by repeat (first | (with_reducible first | exact HB.out | apply pA | apply pN | apply pD | refine pS ?_ GE156.out) | exact HB.out)⟩⟩
 case round =>
  clear H'
  try clear c2
  try clear p2
  obtain ⟨x3_1, rfl, HA, HK1, BK156, HB⟩ := hrel
  cases gk with
  | zero => exact absurd HA.out (by simp [portreeveref04_open.l0])
  | succ k1 =>
   have H := HA.out
   clear HA
   simp only [portreeveref04_open.l0] at H
   by_cases c3 : x3_1 < (l0_1.length : Int)
   ·rw [if_pos c3] at H
    have c3b0 : decide (x3_1 < (l0_1.length : Int)) = true := decide_eq_true c3
    clear c3
    by_cases c4 : 0 ≤ x3_1
    ·rw [if_pos c4] at H
     have c4b0 : decide (0 ≤ x3_1) = true := decide_eq_true c4
     clear c4
     replace H := Option.bind_eq_some_iff.mp H
     obtain ⟨t159, A50, H⟩ := H
     replace H : ((portreeveref04_pool.f ((rd_T76 l0_1 x3_1).f2)).bind fun t160 => (if ((rd_T76 l0_1 x3_1).f0) < 0 then (portreeveref04_open.j1 k1 x3_1 true a0_0 l0_1 l0_2 l0_3 ((rd_T76 l0_1 x3_1).f0) ((rd_T76 l0_1 x3_1).f1) ((rd_T76 l0_1 x3_1).f2) ((rd_T76 l0_1 x3_1).f3) ((rd_T76 l0_1 x3_1).f4) ((rd_T76 l0_1 x3_1).f5)) else (if ((rd_T76 l0_1 x3_1).f0) ≥ a0_0 then (portreeveref04_open.j1 k1 x3_1 true a0_0 l0_1 l0_2 l0_3 ((rd_T76 l0_1 x3_1).f0) ((rd_T76 l0_1 x3_1).f1) ((rd_T76 l0_1 x3_1).f2) ((rd_T76 l0_1 x3_1).f3) ((rd_T76 l0_1 x3_1).f4) ((rd_T76 l0_1 x3_1).f5)) else (if x3_1 > 0 then (if 0 ≤ (wrap64 (x3_1 - 1)) then (if (wrap64 (x3_1 - 1)) < (l0_1.length : Int) then (if ((rd_T76 l0_1 (wrap64 (x3_1 - 1))).f0) ≥ ((rd_T76 l0_1 x3_1).f0) then (portreeveref04_open.j1 k1 x3_1 true a0_0 l0_1 l0_2 l0_3 ((rd_T76 l0_1 x3_1).f0) ((rd_T76 l0_1 x3_1).f1) ((rd_T76 l0_1 x3_1).f2) ((rd_T76 l0_1 x3_1).f3) ((rd_T76 l0_1 x3_1).f4) ((rd_T76 l0_1 x3_1).f5)) else (if ((rd_T76 l0_1 x3_1).f1) < 0 then (portreeveref04_open.j1 k1 x3_1 true a0_0 l0_1 l0_2 l0_3 ((rd_T76 l0_1 x3_1).f0) ((rd_T76 l0_1 x3_1).f1) ((rd_T76 l0_1 x3_1).f2) ((rd_T76 l0_1 x3_1).f3) ((rd_T76 l0_1 x3_1).f4) ((rd_T76 l0_1 x3_1).f5)) else (if ((rd_T76 l0_1 x3_1).f1) > 7 then (portreeveref04_open.j1 k1 x3_1 true a0_0 l0_1 l0_2 l0_3 ((rd_T76 l0_1 x3_1).f0) ((rd_T76 l0_1 x3_1).f1) ((rd_T76 l0_1 x3_1).f2) ((rd_T76 l0_1 x3_1).f3) ((rd_T76 l0_1 x3_1).f4) ((rd_T76 l0_1 x3_1).f5)) else (if t159 = true then (portreeveref04_open.j1 k1 x3_1 (!t160) a0_0 l0_1 l0_2 l0_3 ((rd_T76 l0_1 x3_1).f0) ((rd_T76 l0_1 x3_1).f1) ((rd_T76 l0_1 x3_1).f2) ((rd_T76 l0_1 x3_1).f3) ((rd_T76 l0_1 x3_1).f4) ((rd_T76 l0_1 x3_1).f5)) else (portreeveref04_open.j1 k1 x3_1 true a0_0 l0_1 l0_2 l0_3 ((rd_T76 l0_1 x3_1).f0) ((rd_T76 l0_1 x3_1).f1) ((rd_T76 l0_1 x3_1).f2) ((rd_T76 l0_1 x3_1).f3) ((rd_T76 l0_1 x3_1).f4) ((rd_T76 l0_1 x3_1).f5)))))) else (none)) else (none)) else (if ((rd_T76 l0_1 x3_1).f1) < 0 then (portreeveref04_open.j1 k1 x3_1 true a0_0 l0_1 l0_2 l0_3 ((rd_T76 l0_1 x3_1).f0) ((rd_T76 l0_1 x3_1).f1) ((rd_T76 l0_1 x3_1).f2) ((rd_T76 l0_1 x3_1).f3) ((rd_T76 l0_1 x3_1).f4) ((rd_T76 l0_1 x3_1).f5)) else (if ((rd_T76 l0_1 x3_1).f1) > 7 then (portreeveref04_open.j1 k1 x3_1 true a0_0 l0_1 l0_2 l0_3 ((rd_T76 l0_1 x3_1).f0) ((rd_T76 l0_1 x3_1).f1) ((rd_T76 l0_1 x3_1).f2) ((rd_T76 l0_1 x3_1).f3) ((rd_T76 l0_1 x3_1).f4) ((rd_T76 l0_1 x3_1).f5)) else (if t159 = true then (portreeveref04_open.j1 k1 x3_1 (!t160) a0_0 l0_1 l0_2 l0_3 ((rd_T76 l0_1 x3_1).f0) ((rd_T76 l0_1 x3_1).f1) ((rd_T76 l0_1 x3_1).f2) ((rd_T76 l0_1 x3_1).f3) ((rd_T76 l0_1 x3_1).f4) ((rd_T76 l0_1 x3_1).f5)) else (portreeveref04_open.j1 k1 x3_1 true a0_0 l0_1 l0_2 l0_3 ((rd_T76 l0_1 x3_1).f0) ((rd_T76 l0_1 x3_1).f1) ((rd_T76 l0_1 x3_1).f2) ((rd_T76 l0_1 x3_1).f3) ((rd_T76 l0_1 x3_1).f4) ((rd_T76 l0_1 x3_1).f5))))))))) = some r := H
     have A5 := Aside0.mk A50
     clear A50
     replace H := Option.bind_eq_some_iff.mp H
     obtain ⟨t160, A60, H⟩ := H
     replace H : (if ((rd_T76 l0_1 x3_1).f0) < 0 then (portreeveref04_open.j1 k1 x3_1 true a0_0 l0_1 l0_2 l0_3 ((rd_T76 l0_1 x3_1).f0) ((rd_T76 l0_1 x3_1).f1) ((rd_T76 l0_1 x3_1).f2) ((rd_T76 l0_1 x3_1).f3) ((rd_T76 l0_1 x3_1).f4) ((rd_T76 l0_1 x3_1).f5)) else (if ((rd_T76 l0_1 x3_1).f0) ≥ a0_0 then (portreeveref04_open.j1 k1 x3_1 true a0_0 l0_1 l0_2 l0_3 ((rd_T76 l0_1 x3_1).f0) ((rd_T76 l0_1 x3_1).f1) ((rd_T76 l0_1 x3_1).f2) ((rd_T76 l0_1 x3_1).f3) ((rd_T76 l0_1 x3_1).f4) ((rd_T76 l0_1 x3_1).f5)) else (if x3_1 > 0 then (if 0 ≤ (wrap64 (x3_1 - 1)) then (if (wrap64 (x3_1 - 1)) < (l0_1.length : Int) then (if ((rd_T76 l0_1 (wrap64 (x3_1 - 1))).f0) ≥ ((rd_T76 l0_1 x3_1).f0) then (portreeveref04_open.j1 k1 x3_1 true a0_0 l0_1 l0_2 l0_3 ((rd_T76 l0_1 x3_1).f0) ((rd_T76 l0_1 x3_1).f1) ((rd_T76 l0_1 x3_1).f2) ((rd_T76 l0_1 x3_1).f3) ((rd_T76 l0_1 x3_1).f4) ((rd_T76 l0_1 x3_1).f5)) else (if ((rd_T76 l0_1 x3_1).f1) < 0 then (portreeveref04_open.j1 k1 x3_1 true a0_0 l0_1 l0_2 l0_3 ((rd_T76 l0_1 x3_1).f0) ((rd_T76 l0_1 x3_1).f1) ((rd_T76 l0_1 x3_1).f2) ((rd_T76 l0_1 x3_1).f3) ((rd_T76 l0_1 x3_1).f4) ((rd_T76 l0_1 x3_1).f5)) else (if ((rd_T76 l0_1 x3_1).f1) > 7 then (portreeveref04_open.j1 k1 x3_1 true a0_0 l0_1 l0_2 l0_3 ((rd_T76 l0_1 x3_1).f0) ((rd_T76 l0_1 x3_1).f1) ((rd_T76 l0_1 x3_1).f2) ((rd_T76 l0_1 x3_1).f3) ((rd_T76 l0_1 x3_1).f4) ((rd_T76 l0_1 x3_1).f5)) else (if t159 = true then (portreeveref04_open.j1 k1 x3_1 (!t160) a0_0 l0_1 l0_2 l0_3 ((rd_T76 l0_1 x3_1).f0) ((rd_T76 l0_1 x3_1).f1) ((rd_T76 l0_1 x3_1).f2) ((rd_T76 l0_1 x3_1).f3) ((rd_T76 l0_1 x3_1).f4) ((rd_T76 l0_1 x3_1).f5)) else (portreeveref04_open.j1 k1 x3_1 true a0_0 l0_1 l0_2 l0_3 ((rd_T76 l0_1 x3_1).f0) ((rd_T76 l0_1 x3_1).f1) ((rd_T76 l0_1 x3_1).f2) ((rd_T76 l0_1 x3_1).f3) ((rd_T76 l0_1 x3_1).f4) ((rd_T76 l0_1 x3_1).f5)))))) else (none)) else (none)) else (if ((rd_T76 l0_1 x3_1).f1) < 0 then (portreeveref04_open.j1 k1 x3_1 true a0_0 l0_1 l0_2 l0_3 ((rd_T76 l0_1 x3_1).f0) ((rd_T76 l0_1 x3_1).f1) ((rd_T76 l0_1 x3_1).f2) ((rd_T76 l0_1 x3_1).f3) ((rd_T76 l0_1 x3_1).f4) ((rd_T76 l0_1 x3_1).f5)) else (if ((rd_T76 l0_1 x3_1).f1) > 7 then (portreeveref04_open.j1 k1 x3_1 true a0_0 l0_1 l0_2 l0_3 ((rd_T76 l0_1 x3_1).f0) ((rd_T76 l0_1 x3_1).f1) ((rd_T76 l0_1 x3_1).f2) ((rd_T76 l0_1 x3_1).f3) ((rd_T76 l0_1 x3_1).f4) ((rd_T76 l0_1 x3_1).f5)) else (if t159 = true then (portreeveref04_open.j1 k1 x3_1 (!t160) a0_0 l0_1 l0_2 l0_3 ((rd_T76 l0_1 x3_1).f0) ((rd_T76 l0_1 x3_1).f1) ((rd_T76 l0_1 x3_1).f2) ((rd_T76 l0_1 x3_1).f3) ((rd_T76 l0_1 x3_1).f4) ((rd_T76 l0_1 x3_1).f5)) else (portreeveref04_open.j1 k1 x3_1 true a0_0 l0_1 l0_2 l0_3 ((rd_T76 l0_1 x3_1).f0) ((rd_T76 l0_1 x3_1).f1) ((rd_T76 l0_1 x3_1).f2) ((rd_T76 l0_1 x3_1).f3) ((rd_T76 l0_1 x3_1).f4) ((rd_T76 l0_1 x3_1).f5)))))))) = some r := H
     have A6 := Aside0.mk A60
     clear A60
     have HC7 := Aside0.mk H
     clear H
     obtain ⟨hcz8_0, hcz8_1, hcz8_2, hcz8_3, hfz8_0, hfz8_1, hfz8_2, hfz8_3⟩ := bk4 BK156.out
     have p157 : 0 ≤ (x3_1 : Int) := of_decide_eq_true (by first | (with_reducible assumption) | assumption)
     have q157 : x3_1 < (l0_1.length : Int) := of_decide_eq_true (by first | (with_reducible assumption) | assumption)
     obtain ⟨ad157, e157, hx157_0, hx157_1, hx157_2, hx157_3, hx157_4, hx157_5⟩ := at_T76 HR0_1.out x3_1 p157 q157
     cases e157
     replace hx157_0 := (HB.out.cell (World.block_lt_of_cell? w _ hx157_0)).trans hx157_0
     replace hx157_1 := (HB.out.cell (World.block_lt_of_cell? w _ hx157_1)).trans hx157_1
     replace hx157_2 := (HB.out.cell (World.block_lt_of_cell? w _ hx157_2)).trans hx157_2
     replace hx157_3 := (HB.out.cell (World.block_lt_of_cell? w _ hx157_3)).trans hx157_3
     replace hx157_4 := (HB.out.cell (World.block_lt_of_cell? w _ hx157_4)).trans hx157_4
     replace hx157_5 := (HB.out.cell (World.block_lt_of_cell? w _ hx157_5)).trans hx157_5
     replace p157 := eq_true p157
     replace q157 := eq_true q157
     go_upto_region 7 with (first | ((with_reducible refine gate_dst (N := 4) rfl ?_); refine box_event ?hg (N := 4) ?hd (cs := #[.int .i64 0, .int .i64 0, .int .u32 0, .string (⟨#[]⟩ : ByteArray), .int .u64 0, .int .u64 0]) (t := 76) ?hr ?_; (case hd => rfl); (case hg => rfl); (case hr => first | (go_simp; done) | (go_simp; rfl)); intro gb158 hg w9 hbox hb; have n0_ := Aside0.mk (blk_below (g := gb156) (o := .cells #[.int .i64 a0_0, .slice (some ad157) l0_1.length c0_1, .slice A0_2 l0_2.length c0_2, .slice A0_3 l0_3.length c0_3] 26 (0, 0)) (zB BK156.out) hb); have n1_ := Aside0.mk (below_step (by repeat (first | (with_reducible first | exact HB.out | apply pA | apply pN | apply pD | refine pS ?_ GE156.out) | exact HB.out)) hb); have n2_ := Aside0.mk (hbox); have n3_ := Aside0.mk ((by rw [hg]; exact (below_size (by repeat (first | (with_reducible first | exact HB.out | apply pA | apply pN | apply pD | refine pS ?_ GE156.out) | exact HB.out))) : w.heap.size ≤ gb158)); have n4_ := Aside0.mk ((by rw [hg]; exact (below_size (by repeat (first | (with_reducible first | exact HB.out | apply pA | apply pN | apply pD | refine pS ?_ GE156.out) | exact HB.out))) : w.heap.size ≤ gb158)); have n5_ := Aside0.mk ((by rw [hg]; exact Nat.ne_of_lt (blk_lt (g := gb156) (o := .cells #[.int .i64 a0_0, .slice (some ad157) l0_1.length c0_1, .slice A0_2 l0_2.length c0_2, .slice A0_3 l0_3.length c0_3] 26 (0, 0)) (zB BK156.out)) : gb156 ≠ gb158)); have n6_ := Aside0.mk ((by rw [hg]; exact Nat.ne_of_gt (blk_lt (g := gb156) (o := .cells #[.int .i64 a0_0, .slice (some ad157) l0_1.length c0_1, .slice A0_2 l0_2.length c0_2, .slice A0_3 l0_3.length c0_3] 26 (0, 0)) (zB BK156.out)) : gb158 ≠ gb156)); clear BK156; clear HB; have BK156 := n0_; have HB := n1_; have BK158 := n2_; have GW158 := n3_; have GE158 := n4_; have NB156_158 := n5_; have NB158_156 := n6_; clear n0_ n1_ n2_ n3_ n4_ n5_ n6_; clear hb hbox hg; have hnb10 := NB158_156.out; have hnc10 := NB156_158.out; obtain ⟨hcz11_0, hcz11_1, hcz11_2, hcz11_3, hcz11_4, hcz11_5, hfz11_0, hfz11_1, hfz11_2, hfz11_3, hfz11_4, hfz11_5⟩ := bk6 BK158.out) | (go_at_call 29; (with_reducible refine (portreeveref04_name.calls ((rd_T76 l0_1 x3_1).f3) t159 _ A5.out).mono ?_); rintro e w' ⟨rfl, ⟨nd, rfl⟩⟩; (try first | exact ⟨rfl, _, World.drewN_drewN _ _ _⟩ | exact ⟨rfl, _, Eq.trans (World.drewN_drewN _ _ _) (congrArg (World.drewN _) (Nat.add_assoc _ _ _))⟩)) | (go_at_call 35; (with_reducible refine (portreeveref04_pool.calls ((rd_T76 l0_1 x3_1).f2) t160 _ A6.out).mono ?_); rintro e w' ⟨rfl, ⟨nd, rfl⟩⟩; (try first | exact ⟨rfl, _, World.drewN_drewN _ _ _⟩ | exact ⟨rfl, _, Eq.trans (World.drewN_drewN _ _ _) (congrArg (World.drewN _) (Nat.add_assoc _ _ _))⟩)))
     repeat (go_quiet (first | ((with_reducible refine gate_dst (N := 4) rfl ?_); refine box_event ?hg (N := 4) ?hd (cs := #[.int .i64 0, .int .i64 0, .int .u32 0, .string (⟨#[]⟩ : ByteArray), .int .u64 0, .int .u64 0]) (t := 76) ?hr ?_; (case hd => rfl); (case hg => rfl); (case hr => first | (go_simp; done) | (go_simp; rfl)); intro gb158 hg w9 hbox hb; have n0_ := Aside0.mk (blk_below (g := gb156) (o := .cells #[.int .i64 a0_0, .slice (some ad157) l0_1.length c0_1, .slice A0_2 l0_2.length c0_2, .slice A0_3 l0_3.length c0_3] 26 (0, 0)) (zB BK156.out) hb); have n1_ := Aside0.mk (below_step (by repeat (first | (with_reducible first | exact HB.out | apply pA | apply pN | apply pD | refine pS ?_ GE156.out) | exact HB.out)) hb); have n2_ := Aside0.mk (hbox); have n3_ := Aside0.mk ((by rw [hg]; exact (below_size (by repeat (first | (with_reducible first | exact HB.out | apply pA | apply pN | apply pD | refine pS ?_ GE156.out) | exact HB.out))) : w.heap.size ≤ gb158)); have n4_ := Aside0.mk ((by rw [hg]; exact (below_size (by repeat (first | (with_reducible first | exact HB.out | apply pA | apply pN | apply pD | refine pS ?_ GE156.out) | exact HB.out))) : w.heap.size ≤ gb158)); have n5_ := Aside0.mk ((by rw [hg]; exact Nat.ne_of_lt (blk_lt (g := gb156) (o := .cells #[.int .i64 a0_0, .slice (some ad157) l0_1.length c0_1, .slice A0_2 l0_2.length c0_2, .slice A0_3 l0_3.length c0_3] 26 (0, 0)) (zB BK156.out)) : gb156 ≠ gb158)); have n6_ := Aside0.mk ((by rw [hg]; exact Nat.ne_of_gt (blk_lt (g := gb156) (o := .cells #[.int .i64 a0_0, .slice (some ad157) l0_1.length c0_1, .slice A0_2 l0_2.length c0_2, .slice A0_3 l0_3.length c0_3] 26 (0, 0)) (zB BK156.out)) : gb158 ≠ gb156)); clear BK156; clear HB; have BK156 := n0_; have HB := n1_; have BK158 := n2_; have GW158 := n3_; have GE158 := n4_; have NB156_158 := n5_; have NB158_156 := n6_; clear n0_ n1_ n2_ n3_ n4_ n5_ n6_; clear hb hbox hg; have hnb10 := NB158_156.out; have hnc10 := NB156_158.out; obtain ⟨hcz11_0, hcz11_1, hcz11_2, hcz11_3, hcz11_4, hcz11_5, hfz11_0, hfz11_1, hfz11_2, hfz11_3, hfz11_4, hfz11_5⟩ := bk6 BK158.out) | (go_at_call 29; (with_reducible refine (portreeveref04_name.calls ((rd_T76 l0_1 x3_1).f3) t159 _ A5.out).mono ?_); rintro e w' ⟨rfl, ⟨nd, rfl⟩⟩; (try first | exact ⟨rfl, _, World.drewN_drewN _ _ _⟩ | exact ⟨rfl, _, Eq.trans (World.drewN_drewN _ _ _) (congrArg (World.drewN _) (Nat.add_assoc _ _ _))⟩)) | (go_at_call 35; (with_reducible refine (portreeveref04_pool.calls ((rd_T76 l0_1 x3_1).f2) t160 _ A6.out).mono ?_); rintro e w' ⟨rfl, ⟨nd, rfl⟩⟩; (try first | exact ⟨rfl, _, World.drewN_drewN _ _ _⟩ | exact ⟨rfl, _, Eq.trans (World.drewN_drewN _ _ _) (congrArg (World.drewN _) (Nat.add_assoc _ _ _))⟩))); go_upto_region 7 with (first | ((with_reducible refine gate_dst (N := 4) rfl ?_); refine box_event ?hg (N := 4) ?hd (cs := #[.int .i64 0, .int .i64 0, .int .u32 0, .string (⟨#[]⟩ : ByteArray), .int .u64 0, .int .u64 0]) (t := 76) ?hr ?_; (case hd => rfl); (case hg => rfl); (case hr => first | (go_simp; done) | (go_simp; rfl)); intro gb158 hg w9 hbox hb; have n0_ := Aside0.mk (blk_below (g := gb156) (o := .cells #[.int .i64 a0_0, .slice (some ad157) l0_1.length c0_1, .slice A0_2 l0_2.length c0_2, .slice A0_3 l0_3.length c0_3] 26 (0, 0)) (zB BK156.out) hb); have n1_ := Aside0.mk (below_step (by repeat (first | (with_reducible first | exact HB.out | apply pA | apply pN | apply pD | refine pS ?_ GE156.out) | exact HB.out)) hb); have n2_ := Aside0.mk (hbox); have n3_ := Aside0.mk ((by rw [hg]; exact (below_size (by repeat (first | (with_reducible first | exact HB.out | apply pA | apply pN | apply pD | refine pS ?_ GE156.out) | exact HB.out))) : w.heap.size ≤ gb158)); have n4_ := Aside0.mk ((by rw [hg]; exact (below_size (by repeat (first | (with_reducible first | exact HB.out | apply pA | apply pN | apply pD | refine pS ?_ GE156.out) | exact HB.out))) : w.heap.size ≤ gb158)); have n5_ := Aside0.mk ((by rw [hg]; exact Nat.ne_of_lt (blk_lt (g := gb156) (o := .cells #[.int .i64 a0_0, .slice (some ad157) l0_1.length c0_1, .slice A0_2 l0_2.length c0_2, .slice A0_3 l0_3.length c0_3] 26 (0, 0)) (zB BK156.out)) : gb156 ≠ gb158)); have n6_ := Aside0.mk ((by rw [hg]; exact Nat.ne_of_gt (blk_lt (g := gb156) (o := .cells #[.int .i64 a0_0, .slice (some ad157) l0_1.length c0_1, .slice A0_2 l0_2.length c0_2, .slice A0_3 l0_3.length c0_3] 26 (0, 0)) (zB BK156.out)) : gb158 ≠ gb156)); clear BK156; clear HB; have BK156 := n0_; have HB := n1_; have BK158 := n2_; have GW158 := n3_; have GE158 := n4_; have NB156_158 := n5_; have NB158_156 := n6_; clear n0_ n1_ n2_ n3_ n4_ n5_ n6_; clear hb hbox hg; have hnb10 := NB158_156.out; have hnc10 := NB156_158.out; obtain ⟨hcz11_0, hcz11_1, hcz11_2, hcz11_3, hcz11_4, hcz11_5, hfz11_0, hfz11_1, hfz11_2, hfz11_3, hfz11_4, hfz11_5⟩ := bk6 BK158.out) | (go_at_call 29; (with_reducible refine (portreeveref04_name.calls ((rd_T76 l0_1 x3_1).f3) t159 _ A5.out).mono ?_); rintro e w' ⟨rfl, ⟨nd, rfl⟩⟩; (try first | exact ⟨rfl, _, World.drewN_drewN _ _ _⟩ | exact ⟨rfl, _, Eq.trans (World.drewN_drewN _ _ _) (congrArg (World.drewN _) (Nat.add_assoc _ _ _))⟩)) | (go_at_call 35; (with_reducible refine (portreeveref04_pool.calls ((rd_T76 l0_1 x3_1).f2) t160 _ A6.out).mono ?_); rintro e w' ⟨rfl, ⟨nd, rfl⟩⟩; (try first | exact ⟨rfl, _, World.drewN_drewN _ _ _⟩ | exact ⟨rfl, _, Eq.trans (World.drewN_drewN _ _ _) (congrArg (World.drewN _) (Nat.add_assoc _ _ _))⟩))))
     (try simp only [Act.put, sT, s0, s1])
     refine settle_ (fun wn_ => Aside0 (wn_.heap[gb156]? = some (.cells #[.int .i64 a0_0, .slice (some ad157) l0_1.length c0_1, .slice A0_2 l0_2.length c0_2, .slice A0_3 l0_3.length c0_3] 26 (0, 0))) ∧ Aside0 (wn_.heap[gb158]? = some (.cells #[.int .i64 ((rd_T76 l0_1 x3_1).f0), .int .i64 ((rd_T76 l0_1 x3_1).f1), .int .u32 ((rd_T76 l0_1 x3_1).f2), .string ((rd_T76 l0_1 x3_1).f3), .int .u64 ((rd_T76 l0_1 x3_1).f4), .int .u64 ((rd_T76 l0_1 x3_1).f5)] 76 (0, 0))) ∧ Aside0 (Below w.heap.size w wn_)) ⟨⟨by (with_reducible repeat (first | refine qN ?_ _ | refine qD ?_ | refine qA ?_ _)); refine blk_far ?_ NB156_158.out _; (with_reducible repeat (first | refine qN ?_ _ | refine qD ?_ | refine qA ?_ _)); refine blk_far ?_ NB156_158.out _; (with_reducible repeat (first | refine qN ?_ _ | refine qD ?_ | refine qA ?_ _)); refine blk_far ?_ NB156_158.out _; (with_reducible repeat (first | refine qN ?_ _ | refine qD ?_ | refine qA ?_ _)); refine blk_far ?_ NB156_158.out _; (with_reducible repeat (first | refine qN ?_ _ | refine qD ?_ | refine qA ?_ _)); refine blk_far ?_ NB156_158.out _; (with_reducible repeat (first | refine qN ?_ _ | refine qD ?_ | refine qA ?_ _)); refine blk_far ?_ NB156_158.out _; (with_reducible repeat (first | refine qN ?_ _ | refine qD ?_ | refine qA ?_ _)); exact BK156.out⟩, ⟨by (with_reducible repeat (first | refine qN ?_ _ | refine qD ?_ | refine qA ?_ _)); refine blk_put (cs := #[.int .i64 ((rd_T76 l0_1 x3_1).f0), .int .i64 ((rd_T76 l0_1 x3_1).f1), .int .u32 ((rd_T76 l0_1 x3_1).f2), .string ((rd_T76 l0_1 x3_1).f3), .int .u64 ((rd_T76 l0_1 x3_1).f4), .int .u64 0]) ?_ 5 _ rfl; (with_reducible repeat (first | refine qN ?_ _ | refine qD ?_ | refine qA ?_ _)); refine blk_put (cs := #[.int .i64 ((rd_T76 l0_1 x3_1).f0), .int .i64 ((rd_T76 l0_1 x3_1).f1), .int .u32 ((rd_T76 l0_1 x3_1).f2), .string ((rd_T76 l0_1 x3_1).f3), .int .u64 0, .int .u64 0]) ?_ 4 _ rfl; (with_reducible repeat (first | refine qN ?_ _ | refine qD ?_ | refine qA ?_ _)); refine blk_put (cs := #[.int .i64 ((rd_T76 l0_1 x3_1).f0), .int .i64 ((rd_T76 l0_1 x3_1).f1), .int .u32 ((rd_T76 l0_1 x3_1).f2), .string (⟨#[]⟩ : ByteArray), .int .u64 0, .int .u64 0]) ?_ 3 _ rfl; (with_reducible repeat (first | refine qN ?_ _ | refine qD ?_ | refine qA ?_ _)); refine blk_put (cs := #[.int .i64 ((rd_T76 l0_1 x3_1).f0), .int .i64 ((rd_T76 l0_1 x3_1).f1), .int .u32 0, .string (⟨#[]⟩ : ByteArray), .int .u64 0, .int .u64 0]) ?_ 2 _ rfl; (with_reducible repeat (first | refine qN ?_ _ | refine qD ?_ | refine qA ?_ _)); refine blk_put (cs := #[.int .i64 ((rd_T76 l0_1 x3_1).f0), .int .i64 0, .int .u32 0, .string (⟨#[]⟩ : ByteArray), .int .u64 0, .int .u64 0]) ?_ 1 _ rfl; (with_reducible repeat (first | refine qN ?_ _ | refine qD ?_ | refine qA ?_ _)); refine blk_put (cs := #[.int .i64 0, .int .i64 0, .int .u32 0, .string (⟨#[]⟩ : ByteArray), .int .u64 0, .int .u64 0]) ?_ 0 _ rfl; (with_reducible repeat (first | refine qN ?_ _ | refine qD ?_ | refine qA ?_ _)); exact BK158.out⟩, ⟨by repeat (first | (with_reducible first | exact HB.out | apply pA | apply pN | apply pD | refine pS ?_ GE156.out | refine pS ?_ GE158.out) | exact HB.out)⟩⟩ ?_
     clear BK156 BK158 HB
     rintro w12 ⟨BK156, BK158, HB⟩
     go_cut [69] (fun v69 wc => ∃ (kq : Nat) (x69_6 : Bool), v69 = .bool x69_6 ∧ Aside0 (portreeveref04_open.j1 kq x3_1 x69_6 a0_0 l0_1 l0_2 l0_3 ((rd_T76 l0_1 x3_1).f0) ((rd_T76 l0_1 x3_1).f1) ((rd_T76 l0_1 x3_1).f2) ((rd_T76 l0_1 x3_1).f3) ((rd_T76 l0_1 x3_1).f4) ((rd_T76 l0_1 x3_1).f5) = some r) ∧ Aside0 (kq ≤ k1) ∧ Aside0 (wc.heap[gb156]? = some (.cells #[.int .i64 a0_0, (.slice (some ad157) l0_1.length c0_1), (.slice A0_2 l0_2.length c0_2), (.slice A0_3 l0_3.length c0_3)] 26 (0, 0))) ∧ Aside0 (wc.heap[gb158]? = some (.cells #[.int .i64 ((rd_T76 l0_1 x3_1).f0), .int .i64 ((rd_T76 l0_1 x3_1).f1), .int .u32 ((rd_T76 l0_1 x3_1).f2), .string ((rd_T76 l0_1 x3_1).f3), .int .u64 ((rd_T76 l0_1 x3_1).f4), .int .u64 ((rd_T76 l0_1 x3_1).f5)] 76 (0, 0))) ∧ Aside0 (Below w.heap.size w wc))
     case first =>
      have H := HC7.out
      clear HC7
      by_cases c13 : ((rd_T76 l0_1 x3_1).f0) < 0
      ·rw [if_pos c13] at H
       have c13b0 : decide (((rd_T76 l0_1 x3_1).f0) < 0) = true := decide_eq_true c13
       clear c13
       (first | rw [c13b0] | (simp only [i64_w, i32_w]; rw [c13b0]) | skip)
       have H' := Aside0.mk H
       clear H
       have hnb14 := NB158_156.out
       have hnc14 := NB156_158.out
       obtain ⟨hcz15_0, hcz15_1, hcz15_2, hcz15_3, hcz15_4, hcz15_5, hfz15_0, hfz15_1, hfz15_2, hfz15_3, hfz15_4, hfz15_5⟩ := bk6 BK158.out
       go_wp2
       repeat (go_quiet (fail); try go_wp2)
       go_meet
       case rel => exact ⟨_, (true), (by first | rfl | (simp; done) | (simp [*]; done)), H', ⟨by have := HK1.out; first | omega | exact Nat.le_refl _⟩, ⟨zB BK156.out⟩, ⟨zB BK158.out⟩, ⟨by repeat (first | (with_reducible first | exact HB.out | apply pA | apply pN | apply pD | refine pS ?_ GE156.out | refine pS ?_ GE158.out) | exact HB.out)⟩⟩
      ·rw [if_neg c13] at H
       have c13b0 : decide (((rd_T76 l0_1 x3_1).f0) < 0) = false := decide_eq_false c13
       clear c13
       (first | rw [c13b0] | (simp only [i64_w, i32_w]; rw [c13b0]) | skip)
       by_cases c16 : ((rd_T76 l0_1 x3_1).f0) ≥ a0_0
       ·rw [if_pos c16] at H
        have c16b0 : decide (a0_0 ≤ ((rd_T76 l0_1 x3_1).f0)) = true := decide_eq_true c16
        clear c16
        have H' := Aside0.mk H
        clear H
        have hnb17 := NB158_156.out
        have hnc17 := NB156_158.out
        obtain ⟨hcz18_0, hcz18_1, hcz18_2, hcz18_3, hcz18_4, hcz18_5, hfz18_0, hfz18_1, hfz18_2, hfz18_3, hfz18_4, hfz18_5⟩ := bk6 BK158.out
        obtain ⟨hcz19_0, hcz19_1, hcz19_2, hcz19_3, hfz19_0, hfz19_1, hfz19_2, hfz19_3⟩ := bk4 BK156.out
        go_wp2
        repeat (go_quiet (fail); try go_wp2)
        go_meet
        case rel => exact ⟨_, (true), (by first | rfl | (simp; done) | (simp [*]; done)), H', ⟨by have := HK1.out; first | omega | exact Nat.le_refl _⟩, ⟨zB BK156.out⟩, ⟨zB BK158.out⟩, ⟨by repeat (first | (with_reducible first | exact HB.out | apply pA | apply pN | apply pD | refine pS ?_ GE156.out | refine pS ?_ GE158.out) | exact HB.out)⟩⟩
       ·rw [if_neg c16] at H
        have c16b0 : decide (a0_0 ≤ ((rd_T76 l0_1 x3_1).f0)) = false := decide_eq_false c16
        clear c16
        by_cases c20 : x3_1 > 0
        ·rw [if_pos c20] at H
         have c20b0 : decide (0 < x3_1) = true := decide_eq_true c20
         clear c20
         obtain ⟨ji21, hji21⟩ : ∃ j_ : Int, (wrap64 (x3_1 - 1)) = j_ := ⟨_, rfl⟩
         replace H : (if 0 ≤ (ji21) then (if (ji21) < (l0_1.length : Int) then (if ((rd_T76 l0_1 (ji21)).f0) ≥ ((rd_T76 l0_1 x3_1).f0) then (portreeveref04_open.j1 k1 x3_1 true a0_0 l0_1 l0_2 l0_3 ((rd_T76 l0_1 x3_1).f0) ((rd_T76 l0_1 x3_1).f1) ((rd_T76 l0_1 x3_1).f2) ((rd_T76 l0_1 x3_1).f3) ((rd_T76 l0_1 x3_1).f4) ((rd_T76 l0_1 x3_1).f5)) else (if ((rd_T76 l0_1 x3_1).f1) < 0 then (portreeveref04_open.j1 k1 x3_1 true a0_0 l0_1 l0_2 l0_3 ((rd_T76 l0_1 x3_1).f0) ((rd_T76 l0_1 x3_1).f1) ((rd_T76 l0_1 x3_1).f2) ((rd_T76 l0_1 x3_1).f3) ((rd_T76 l0_1 x3_1).f4) ((rd_T76 l0_1 x3_1).f5)) else (if ((rd_T76 l0_1 x3_1).f1) > 7 then (portreeveref04_open.j1 k1 x3_1 true a0_0 l0_1 l0_2 l0_3 ((rd_T76 l0_1 x3_1).f0) ((rd_T76 l0_1 x3_1).f1) ((rd_T76 l0_1 x3_1).f2) ((rd_T76 l0_1 x3_1).f3) ((rd_T76 l0_1 x3_1).f4) ((rd_T76 l0_1 x3_1).f5)) else (if t159 = true then (portreeveref04_open.j1 k1 x3_1 (!t160) a0_0 l0_1 l0_2 l0_3 ((rd_T76 l0_1 x3_1).f0) ((rd_T76 l0_1 x3_1).f1) ((rd_T76 l0_1 x3_1).f2) ((rd_T76 l0_1 x3_1).f3) ((rd_T76 l0_1 x3_1).f4) ((rd_T76 l0_1 x3_1).f5)) else (portreeveref04_open.j1 k1 x3_1 true a0_0 l0_1 l0_2 l0_3 ((rd_T76 l0_1 x3_1).f0) ((rd_T76 l0_1 x3_1).f1) ((rd_T76 l0_1 x3_1).f2) ((rd_T76 l0_1 x3_1).f3) ((rd_T76 l0_1 x3_1).f4) ((rd_T76 l0_1 x3_1).f5)))))) else (none)) else (none)) = some r := by first | (rw [hji21] at H; exact H) | (simp only [hji21] at H ⊢; exact H)
         have hji21w : (IntKind.i64.wrap (x3_1 - 1)) = ji21 := (i64_w _).trans hji21
         by_cases c22 : 0 ≤ (ji21)
         ·rw [if_pos c22] at H
          have c22b0 : decide (0 ≤ (ji21)) = true := decide_eq_true c22
          clear c22
          by_cases c23 : (ji21) < (l0_1.length : Int)
          ·rw [if_pos c23] at H
           have c23b0 : decide ((ji21) < (l0_1.length : Int)) = true := decide_eq_true c23
           clear c23
           by_cases c24 : ((rd_T76 l0_1 (ji21)).f0) ≥ ((rd_T76 l0_1 x3_1).f0)
           ·rw [if_pos c24] at H
            have c24b0 : decide (((rd_T76 l0_1 x3_1).f0) ≤ ((rd_T76 l0_1 (ji21)).f0)) = true := decide_eq_true c24
            clear c24
            have H' := Aside0.mk H
            clear H
            have hnb25 := NB158_156.out
            have hnc25 := NB156_158.out
            obtain ⟨hcz26_0, hcz26_1, hcz26_2, hcz26_3, hcz26_4, hcz26_5, hfz26_0, hfz26_1, hfz26_2, hfz26_3, hfz26_4, hfz26_5⟩ := bk6 BK158.out
            obtain ⟨hcz27_0, hcz27_1, hcz27_2, hcz27_3, hfz27_0, hfz27_1, hfz27_2, hfz27_3⟩ := bk4 BK156.out
            have p161 : 0 ≤ ((ji21) : Int) := of_decide_eq_true (by first | (with_reducible assumption) | assumption)
            have q161 : (ji21) < (l0_1.length : Int) := of_decide_eq_true (by first | (with_reducible assumption) | assumption)
            obtain ⟨ad161, e161, hx161_0, hx161_1, hx161_2, hx161_3, hx161_4, hx161_5⟩ := at_T76 HR0_1.out (ji21) p161 q161
            obtain rfl : ad157 = ad161 := (by injection e161)
            replace hx161_0 := (HB.out.cell (World.block_lt_of_cell? w _ hx161_0)).trans hx161_0
            replace hx161_1 := (HB.out.cell (World.block_lt_of_cell? w _ hx161_1)).trans hx161_1
            replace hx161_2 := (HB.out.cell (World.block_lt_of_cell? w _ hx161_2)).trans hx161_2
            replace hx161_3 := (HB.out.cell (World.block_lt_of_cell? w _ hx161_3)).trans hx161_3
            replace hx161_4 := (HB.out.cell (World.block_lt_of_cell? w _ hx161_4)).trans hx161_4
            replace hx161_5 := (HB.out.cell (World.block_lt_of_cell? w _ hx161_5)).trans hx161_5
            replace p161 := eq_true p161
            replace q161 := eq_true q161
            go_wp2
            repeat (go_quiet (fail); try go_wp2)
            go_meet
            case rel => exact ⟨_, (true), (by first | rfl | (simp; done) | (simp [*]; done)), H', ⟨by have := HK1.out; first | omega | exact Nat.le_refl _⟩, ⟨zB BK156.out⟩, ⟨zB BK158.out⟩, ⟨by repeat (first | (with_reducible first | exact HB.out | apply pA | apply pN | apply pD | refine pS ?_ GE156.out | refine pS ?_ GE158.out) | exact HB.out)⟩⟩
           ·rw [if_neg c24] at H
            have c24b0 : decide (((rd_T76 l0_1 x3_1).f0) ≤ ((rd_T76 l0_1 (ji21)).f0)) = false := decide_eq_false c24
            clear c24
            by_cases c28 : ((rd_T76 l0_1 x3_1).f1) < 0
            ·rw [if_pos c28] at H
             have c28b0 : decide (((rd_T76 l0_1 x3_1).f1) < 0) = true := decide_eq_true c28
             clear c28
             have H' := Aside0.mk H
             clear H
             have hnb29 := NB158_156.out
             have hnc29 := NB156_158.out
             obtain ⟨hcz30_0, hcz30_1, hcz30_2, hcz30_3, hcz30_4, hcz30_5, hfz30_0, hfz30_1, hfz30_2, hfz30_3, hfz30_4, hfz30_5⟩ := bk6 BK158.out
             obtain ⟨hcz31_0, hcz31_1, hcz31_2, hcz31_3, hfz31_0, hfz31_1, hfz31_2, hfz31_3⟩ := bk4 BK156.out
             have p161 : 0 ≤ ((ji21) : Int) := of_decide_eq_true (by first | (with_reducible assumption) | assumption)
             have q161 : (ji21) < (l0_1.length : Int) := of_decide_eq_true (by first | (with_reducible assumption) | assumption)
             obtain ⟨ad161, e161, hx161_0, hx161_1, hx161_2, hx161_3, hx161_4, hx161_5⟩ := at_T76 HR0_1.out (ji21) p161 q161
             obtain rfl : ad157 = ad161 := (by injection e161)
             replace hx161_0 := (HB.out.cell (World.block_lt_of_cell? w _ hx161_0)).trans hx161_0
             replace hx161_1 := (HB.out.cell (World.block_lt_of_cell? w _ hx161_1)).trans hx161_1
             replace hx161_2 := (HB.out.cell (World.block_lt_of_cell? w _ hx161_2)).trans hx161_2
             replace hx161_3 := (HB.out.cell (World.block_lt_of_cell? w _ hx161_3)).trans hx161_3
             replace hx161_4 := (HB.out.cell (World.block_lt_of_cell? w _ hx161_4)).trans hx161_4
             replace hx161_5 := (HB.out.cell (World.block_lt_of_cell? w _ hx161_5)).trans hx161_5
             replace p161 := eq_true p161
             replace q161 := eq_true q161
             go_wp2
             repeat (go_quiet (fail); try go_wp2)
             go_meet
             case rel => exact ⟨_, (true), (by first | rfl | (simp; done) | (simp [*]; done)), H', ⟨by have := HK1.out; first | omega | exact Nat.le_refl _⟩, ⟨zB BK156.out⟩, ⟨zB BK158.out⟩, ⟨by repeat (first | (with_reducible first | exact HB.out | apply pA | apply pN | apply pD | refine pS ?_ GE156.out | refine pS ?_ GE158.out) | exact HB.out)⟩⟩
            ·rw [if_neg c28] at H
             have c28b0 : decide (((rd_T76 l0_1 x3_1).f1) < 0) = false := decide_eq_false c28
             clear c28
             by_cases c32 : ((rd_T76 l0_1 x3_1).f1) > 7
             ·rw [if_pos c32] at H
              have c32b0 : decide (7 < ((rd_T76 l0_1 x3_1).f1)) = true := decide_eq_true c32
              clear c32
              have H' := Aside0.mk H
              clear H
              have hnb33 := NB158_156.out
              have hnc33 := NB156_158.out
              obtain ⟨hcz34_0, hcz34_1, hcz34_2, hcz34_3, hcz34_4, hcz34_5, hfz34_0, hfz34_1, hfz34_2, hfz34_3, hfz34_4, hfz34_5⟩ := bk6 BK158.out
              obtain ⟨hcz35_0, hcz35_1, hcz35_2, hcz35_3, hfz35_0, hfz35_1, hfz35_2, hfz35_3⟩ := bk4 BK156.out
              have p161 : 0 ≤ ((ji21) : Int) := of_decide_eq_true (by first | (with_reducible assumption) | assumption)
              have q161 : (ji21) < (l0_1.length : Int) := of_decide_eq_true (by first | (with_reducible assumption) | assumption)
              obtain ⟨ad161, e161, hx161_0, hx161_1, hx161_2, hx161_3, hx161_4, hx161_5⟩ := at_T76 HR0_1.out (ji21) p161 q161
              obtain rfl : ad157 = ad161 := (by injection e161)
              replace hx161_0 := (HB.out.cell (World.block_lt_of_cell? w _ hx161_0)).trans hx161_0
              replace hx161_1 := (HB.out.cell (World.block_lt_of_cell? w _ hx161_1)).trans hx161_1
              replace hx161_2 := (HB.out.cell (World.block_lt_of_cell? w _ hx161_2)).trans hx161_2
              replace hx161_3 := (HB.out.cell (World.block_lt_of_cell? w _ hx161_3)).trans hx161_3
              replace hx161_4 := (HB.out.cell (World.block_lt_of_cell? w _ hx161_4)).trans hx161_4
              replace hx161_5 := (HB.out.cell (World.block_lt_of_cell? w _ hx161_5)).trans hx161_5
              replace p161 := eq_true p161
              replace q161 := eq_true q161
              go_wp2
              repeat (go_quiet (fail); try go_wp2)
              go_meet
              case rel => exact ⟨_, (true), (by first | rfl | (simp; done) | (simp [*]; done)), H', ⟨by have := HK1.out; first | omega | exact Nat.le_refl _⟩, ⟨zB BK156.out⟩, ⟨zB BK158.out⟩, ⟨by repeat (first | (with_reducible first | exact HB.out | apply pA | apply pN | apply pD | refine pS ?_ GE156.out | refine pS ?_ GE158.out) | exact HB.out)⟩⟩
             ·rw [if_neg c32] at H
              have c32b0 : decide (7 < ((rd_T76 l0_1 x3_1).f1)) = false := decide_eq_false c32
              clear c32
              by_cases c36 : t159 = true
              ·subst c36
               have H1 : (portreeveref04_open.j1 k1 x3_1 (!t160) a0_0 l0_1 l0_2 l0_3 ((rd_T76 l0_1 x3_1).f0) ((rd_T76 l0_1 x3_1).f1) ((rd_T76 l0_1 x3_1).f2) ((rd_T76 l0_1 x3_1).f3) ((rd_T76 l0_1 x3_1).f4) ((rd_T76 l0_1 x3_1).f5)) = some r := by rw [if_pos rfl] at H; exact H
               clear H
               have H := H1
               clear H1
               have H' := Aside0.mk H
               clear H
               have hnb37 := NB158_156.out
               have hnc37 := NB156_158.out
               obtain ⟨hcz38_0, hcz38_1, hcz38_2, hcz38_3, hcz38_4, hcz38_5, hfz38_0, hfz38_1, hfz38_2, hfz38_3, hfz38_4, hfz38_5⟩ := bk6 BK158.out
               obtain ⟨hcz39_0, hcz39_1, hcz39_2, hcz39_3, hfz39_0, hfz39_1, hfz39_2, hfz39_3⟩ := bk4 BK156.out
               have p161 : 0 ≤ ((ji21) : Int) := of_decide_eq_true (by first | (with_reducible assumption) | assumption)
               have q161 : (ji21) < (l0_1.length : Int) := of_decide_eq_true (by first | (with_reducible assumption) | assumption)
               obtain ⟨ad161, e161, hx161_0, hx161_1, hx161_2, hx161_3, hx161_4, hx161_5⟩ := at_T76 HR0_1.out (ji21) p161 q161
               obtain rfl : ad157 = ad161 := (by injection e161)
               replace hx161_0 := (HB.out.cell (World.block_lt_of_cell? w _ hx161_0)).trans hx161_0
               replace hx161_1 := (HB.out.cell (World.block_lt_of_cell? w _ hx161_1)).trans hx161_1
               replace hx161_2 := (HB.out.cell (World.block_lt_of_cell? w _ hx161_2)).trans hx161_2
               replace hx161_3 := (HB.out.cell (World.block_lt_of_cell? w _ hx161_3)).trans hx161_3
               replace hx161_4 := (HB.out.cell (World.block_lt_of_cell? w _ hx161_4)).trans hx161_4
               replace hx161_5 := (HB.out.cell (World.block_lt_of_cell? w _ hx161_5)).trans hx161_5
               replace p161 := eq_true p161
               replace q161 := eq_true q161
               go_wp2
               repeat (go_quiet (fail); try go_wp2)
               go_meet
               case rel => exact ⟨_, (!t160), (by first | rfl | (simp; done) | (simp [*]; done)), H', ⟨by have := HK1.out; first | omega | exact Nat.le_refl _⟩, ⟨zB BK156.out⟩, ⟨zB BK158.out⟩, ⟨by repeat (first | (with_reducible first | exact HB.out | apply pA | apply pN | apply pD | refine pS ?_ GE156.out | refine pS ?_ GE158.out) | exact HB.out)⟩⟩
              ·replace c36 := Bool.eq_false_iff.mpr c36
               subst c36
               have H1 : (portreeveref04_open.j1 k1 x3_1 true a0_0 l0_1 l0_2 l0_3 ((rd_T76 l0_1 x3_1).f0) ((rd_T76 l0_1 x3_1).f1) ((rd_T76 l0_1 x3_1).f2) ((rd_T76 l0_1 x3_1).f3) ((rd_T76 l0_1 x3_1).f4) ((rd_T76 l0_1 x3_1).f5)) = some r := by rw [if_neg (show ¬ (false = true) by decide)] at H; exact H
               clear H
               have H := H1
               clear H1
               have H' := Aside0.mk H
               clear H
               have hnb40 := NB158_156.out
               have hnc40 := NB156_158.out
               obtain ⟨hcz41_0, hcz41_1, hcz41_2, hcz41_3, hcz41_4, hcz41_5, hfz41_0, hfz41_1, hfz41_2, hfz41_3, hfz41_4, hfz41_5⟩ := bk6 BK158.out
               obtain ⟨hcz42_0, hcz42_1, hcz42_2, hcz42_3, hfz42_0, hfz42_1, hfz42_2, hfz42_3⟩ := bk4 BK156.out
               have p161 : 0 ≤ ((ji21) : Int) := of_decide_eq_true (by first | (with_reducible assumption) | assumption)
               have q161 : (ji21) < (l0_1.length : Int) := of_decide_eq_true (by first | (with_reducible assumption) | assumption)
               obtain ⟨ad161, e161, hx161_0, hx161_1, hx161_2, hx161_3, hx161_4, hx161_5⟩ := at_T76 HR0_1.out (ji21) p161 q161
               obtain rfl : ad157 = ad161 := (by injection e161)
               replace hx161_0 := (HB.out.cell (World.block_lt_of_cell? w _ hx161_0)).trans hx161_0
               replace hx161_1 := (HB.out.cell (World.block_lt_of_cell? w _ hx161_1)).trans hx161_1
               replace hx161_2 := (HB.out.cell (World.block_lt_of_cell? w _ hx161_2)).trans hx161_2
               replace hx161_3 := (HB.out.cell (World.block_lt_of_cell? w _ hx161_3)).trans hx161_3
               replace hx161_4 := (HB.out.cell (World.block_lt_of_cell? w _ hx161_4)).trans hx161_4
               replace hx161_5 := (HB.out.cell (World.block_lt_of_cell? w _ hx161_5)).trans hx161_5
               replace p161 := eq_true p161
               replace q161 := eq_true q161
               go_wp2
               repeat (go_quiet (fail); try go_wp2)
               go_meet
               case rel => exact ⟨_, (true), (by first | rfl | (simp; done) | (simp [*]; done)), H', ⟨by have := HK1.out; first | omega | exact Nat.le_refl _⟩, ⟨zB BK156.out⟩, ⟨zB BK158.out⟩, ⟨by repeat (first | (with_reducible first | exact HB.out | apply pA | apply pN | apply pD | refine pS ?_ GE156.out | refine pS ?_ GE158.out) | exact HB.out)⟩⟩
          ·rw [if_neg c23] at H
           exact absurd H (by simp)
         ·rw [if_neg c22] at H
          exact absurd H (by simp)
        ·rw [if_neg c20] at H
         have c20b0 : decide (0 < x3_1) = false := decide_eq_false c20
         clear c20
         by_cases c43 : ((rd_T76 l0_1 x3_1).f1) < 0
         ·rw [if_pos c43] at H
          have c43b0 : decide (((rd_T76 l0_1 x3_1).f1) < 0) = true := decide_eq_true c43
          clear c43
          have H' := Aside0.mk H
          clear H
          have hnb44 := NB158_156.out
          have hnc44 := NB156_158.out
          obtain ⟨hcz45_0, hcz45_1, hcz45_2, hcz45_3, hcz45_4, hcz45_5, hfz45_0, hfz45_1, hfz45_2, hfz45_3, hfz45_4, hfz45_5⟩ := bk6 BK158.out
          obtain ⟨hcz46_0, hcz46_1, hcz46_2, hcz46_3, hfz46_0, hfz46_1, hfz46_2, hfz46_3⟩ := bk4 BK156.out
          go_wp2
          repeat (go_quiet (fail); try go_wp2)
          go_meet
          case rel => exact ⟨_, (true), (by first | rfl | (simp; done) | (simp [*]; done)), H', ⟨by have := HK1.out; first | omega | exact Nat.le_refl _⟩, ⟨zB BK156.out⟩, ⟨zB BK158.out⟩, ⟨by repeat (first | (with_reducible first | exact HB.out | apply pA | apply pN | apply pD | refine pS ?_ GE156.out | refine pS ?_ GE158.out) | exact HB.out)⟩⟩
         ·rw [if_neg c43] at H
          have c43b0 : decide (((rd_T76 l0_1 x3_1).f1) < 0) = false := decide_eq_false c43
          clear c43
          by_cases c47 : ((rd_T76 l0_1 x3_1).f1) > 7
          ·rw [if_pos c47] at H
           have c47b0 : decide (7 < ((rd_T76 l0_1 x3_1).f1)) = true := decide_eq_true c47
           clear c47
           have H' := Aside0.mk H
           clear H
           have hnb48 := NB158_156.out
           have hnc48 := NB156_158.out
           obtain ⟨hcz49_0, hcz49_1, hcz49_2, hcz49_3, hcz49_4, hcz49_5, hfz49_0, hfz49_1, hfz49_2, hfz49_3, hfz49_4, hfz49_5⟩ := bk6 BK158.out
           obtain ⟨hcz50_0, hcz50_1, hcz50_2, hcz50_3, hfz50_0, hfz50_1, hfz50_2, hfz50_3⟩ := bk4 BK156.out
           go_wp2
           repeat (go_quiet (fail); try go_wp2)
           go_meet
           case rel => exact ⟨_, (true), (by first | rfl | (simp; done) | (simp [*]; done)), H', ⟨by have := HK1.out; first | omega | exact Nat.le_refl _⟩, ⟨zB BK156.out⟩, ⟨zB BK158.out⟩, ⟨by repeat (first | (with_reducible first | exact HB.out | apply pA | apply pN | apply pD | refine pS ?_ GE156.out | refine pS ?_ GE158.out) | exact HB.out)⟩⟩
          ·rw [if_neg c47] at H
           have c47b0 : decide (7 < ((rd_T76 l0_1 x3_1).f1)) = false := decide_eq_false c47
           clear c47
           by_cases c51 : t159 = true
           ·subst c51
            have H1 : (portreeveref04_open.j1 k1 x3_1 (!t160) a0_0 l0_1 l0_2 l0_3 ((rd_T76 l0_1 x3_1).f0) ((rd_T76 l0_1 x3_1).f1) ((rd_T76 l0_1 x3_1).f2) ((rd_T76 l0_1 x3_1).f3) ((rd_T76 l0_1 x3_1).f4) ((rd_T76 l0_1 x3_1).f5)) = some r := by rw [if_pos rfl] at H; exact H
            clear H
            have H := H1
            clear H1
            have H' := Aside0.mk H
            clear H
            have hnb52 := NB158_156.out
            have hnc52 := NB156_158.out
            obtain ⟨hcz53_0, hcz53_1, hcz53_2, hcz53_3, hcz53_4, hcz53_5, hfz53_0, hfz53_1, hfz53_2, hfz53_3, hfz53_4, hfz53_5⟩ := bk6 BK158.out
            obtain ⟨hcz54_0, hcz54_1, hcz54_2, hcz54_3, hfz54_0, hfz54_1, hfz54_2, hfz54_3⟩ := bk4 BK156.out
            go_wp2
            repeat (go_quiet (fail); try go_wp2)
            go_meet
            case rel => exact ⟨_, (!t160), (by first | rfl | (simp; done) | (simp [*]; done)), H', ⟨by have := HK1.out; first | omega | exact Nat.le_refl _⟩, ⟨zB BK156.out⟩, ⟨zB BK158.out⟩, ⟨by repeat (first | (with_reducible first | exact HB.out | apply pA | apply pN | apply pD | refine pS ?_ GE156.out | refine pS ?_ GE158.out) | exact HB.out)⟩⟩
           ·replace c51 := Bool.eq_false_iff.mpr c51
            subst c51
            have H1 : (portreeveref04_open.j1 k1 x3_1 true a0_0 l0_1 l0_2 l0_3 ((rd_T76 l0_1 x3_1).f0) ((rd_T76 l0_1 x3_1).f1) ((rd_T76 l0_1 x3_1).f2) ((rd_T76 l0_1 x3_1).f3) ((rd_T76 l0_1 x3_1).f4) ((rd_T76 l0_1 x3_1).f5)) = some r := by rw [if_neg (show ¬ (false = true) by decide)] at H; exact H
            clear H
            have H := H1
            clear H1
            have H' := Aside0.mk H
            clear H
            have hnb55 := NB158_156.out
            have hnc55 := NB156_158.out
            obtain ⟨hcz56_0, hcz56_1, hcz56_2, hcz56_3, hcz56_4, hcz56_5, hfz56_0, hfz56_1, hfz56_2, hfz56_3, hfz56_4, hfz56_5⟩ := bk6 BK158.out
            obtain ⟨hcz57_0, hcz57_1, hcz57_2, hcz57_3, hfz57_0, hfz57_1, hfz57_2, hfz57_3⟩ := bk4 BK156.out
            go_wp2
            repeat (go_quiet (fail); try go_wp2)
            go_meet
            case rel => exact ⟨_, (true), (by first | rfl | (simp; done) | (simp [*]; done)), H', ⟨by have := HK1.out; first | omega | exact Nat.le_refl _⟩, ⟨zB BK156.out⟩, ⟨zB BK158.out⟩, ⟨by repeat (first | (with_reducible first | exact HB.out | apply pA | apply pN | apply pD | refine pS ?_ GE156.out | refine pS ?_ GE158.out) | exact HB.out)⟩⟩
     case rest =>
      clear HC7
      try clear c1
      try clear p1
      try clear q1
      try clear hx1
      try clear c2
      try clear p2
      try clear c3
      try clear c3b0
      try clear c4
      try clear c4b0
      try clear c5
      try clear p6
      try clear c10
      try clear c13
      try clear c13b0
      try clear c14
      try clear p15
      try clear q15
      try clear hx15
      try clear c16
      try clear c16b0
      try clear p16
      try clear q16
      try clear hx16
      try clear c17
      try clear c20
      try clear c20b0
      try clear c22
      try clear c22b0
      try clear c23
      try clear c23b0
      try clear c24
      try clear c24b0
      try clear c25
      try clear c26
      try clear c28
      try clear c28b0
      try clear c29
      try clear c32
      try clear c32b0
      try clear c33
      try clear c36
      try clear c37
      try clear c40
      try clear c43
      try clear c43b0
      try clear c44
      try clear c47
      try clear c47b0
      try clear c48
      try clear c51
      try clear c52
      try clear c55
      try clear hcz11_0
      try clear hcz11_1
      try clear hcz11_2
      try clear hcz11_3
      try clear hcz11_4
      try clear hcz11_5
      try clear hcz15_0
      try clear hcz15_1
      try clear hcz15_2
      try clear hcz15_3
      try clear hcz15_4
      try clear hcz15_5
      try clear hcz18_0
      try clear hcz18_1
      try clear hcz18_2
      try clear hcz18_3
      try clear hcz18_4
      try clear hcz18_5
      try clear hcz19_0
      try clear hcz19_1
      try clear hcz19_2
      try clear hcz19_3
      try clear hcz26_0
      try clear hcz26_1
      try clear hcz26_2
      try clear hcz26_3
      try clear hcz26_4
      try clear hcz26_5
      try clear hcz27_0
      try clear hcz27_1
      try clear hcz27_2
      try clear hcz27_3
      try clear hcz30_0
      try clear hcz30_1
      try clear hcz30_2
      try clear hcz30_3
      try clear hcz30_4
      try clear hcz30_5
      try clear hcz31_0
      try clear hcz31_1
      try clear hcz31_2
      try clear hcz31_3
      try clear hcz34_0
      try clear hcz34_1
      try clear hcz34_2
      try clear hcz34_3
      try clear hcz34_4
      try clear hcz34_5
      try clear hcz35_0
      try clear hcz35_1
      try clear hcz35_2
      try clear hcz35_3
      try clear hcz38_0
      try clear hcz38_1
      try clear hcz38_2
      try clear hcz38_3
      try clear hcz38_4
      try clear hcz38_5
      try clear hcz39_0
      try clear hcz39_1
      try clear hcz39_2
      try clear hcz39_3
      try clear hcz41_0
      try clear hcz41_1
      try clear hcz41_2
      try clear hcz41_3
      try clear hcz41_4
      try clear hcz41_5
      try clear hcz42_0
      try clear hcz42_1
      try clear hcz42_2
      try clear hcz42_3
      try clear hcz45_0
      try clear hcz45_1
      try clear hcz45_2
      try clear hcz45_3
      try clear hcz45_4
      try clear hcz45_5
      try clear hcz46_0
      try clear hcz46_1
      try clear hcz46_2
      try clear hcz46_3
      try clear hcz49_0
      try clear hcz49_1
      try clear hcz49_2
      try clear hcz49_3
      try clear hcz49_4
      try clear hcz49_5
      try clear hcz50_0
      try clear hcz50_1
      try clear hcz50_2
      try clear hcz50_3
      try clear hcz53_0
      try clear hcz53_1
      try clear hcz53_2
      try clear hcz53_3
      try clear hcz53_4
      try clear hcz53_5
      try clear hcz54_0
      try clear hcz54_1
      try clear hcz54_2
      try clear hcz54_3
      try clear hcz56_0
      try clear hcz56_1
      try clear hcz56_2
      try clear hcz56_3
      try clear hcz56_4
      try clear hcz56_5
      try clear hcz57_0
      try clear hcz57_1
      try clear hcz57_2
      try clear hcz57_3
      try clear hcz8_0
      try clear hcz8_1
      try clear hcz8_2
      try clear hcz8_3
      try clear hfz11_0
      try clear hfz11_1
      try clear hfz11_2
      try clear hfz11_3
      try clear hfz11_4
      try clear hfz11_5
      try clear hfz15_0
      try clear hfz15_1
      try clear hfz15_2
      try clear hfz15_3
      try clear hfz15_4
      try clear hfz15_5
      try clear hfz18_0
      try clear hfz18_1
      try clear hfz18_2
      try clear hfz18_3
      try clear hfz18_4
      try clear hfz18_5
      try clear hfz19_0
      try clear hfz19_1
      try clear hfz19_2
      try clear hfz19_3
      try clear hfz26_0
      try clear hfz26_1
      try clear hfz26_2
      try clear hfz26_3
      try clear hfz26_4
      try clear hfz26_5
      try clear hfz27_0
      try clear hfz27_1
      try clear hfz27_2
      try clear hfz27_3
      try clear hfz30_0
      try clear hfz30_1
      try clear hfz30_2
      try clear hfz30_3
      try clear hfz30_4
      try clear hfz30_5
      try clear hfz31_0
      try clear hfz31_1
      try clear hfz31_2
      try clear hfz31_3
      try clear hfz34_0
      try clear hfz34_1
      try clear hfz34_2
      try clear hfz34_3
      try clear hfz34_4
      try clear hfz34_5
      try clear hfz35_0
      try clear hfz35_1
      try clear hfz35_2
      try clear hfz35_3
      try clear hfz38_0
      try clear hfz38_1
      try clear hfz38_2
      try clear hfz38_3
      try clear hfz38_4
      try clear hfz38_5
      try clear hfz39_0
      try clear hfz39_1
      try clear hfz39_2
      try clear hfz39_3
      try clear hfz41_0
      try clear hfz41_1
      try clear hfz41_2
      try clear hfz41_3
      try clear hfz41_4
      try clear hfz41_5
      try clear hfz42_0
      try clear hfz42_1
      try clear hfz42_2
      try clear hfz42_3
      try clear hfz45_0
      try clear hfz45_1
      try clear hfz45_2
      try clear hfz45_3
      try clear hfz45_4
      try clear hfz45_5
      try clear hfz46_0
      try clear hfz46_1
      try clear hfz46_2
      try clear hfz46_3
      try clear hfz49_0
      try clear hfz49_1
      try clear hfz49_2
      try clear hfz49_3
      try clear hfz49_4
      try clear hfz49_5
      try clear hfz50_0
      try clear hfz50_1
      try clear hfz50_2
      try clear hfz50_3
      try clear hfz53_0
      try clear hfz53_1
      try clear hfz53_2
      try clear hfz53_3
      try clear hfz53_4
      try clear hfz53_5
      try clear hfz54_0
      try clear hfz54_1
      try clear hfz54_2
      try clear hfz54_3
      try clear hfz56_0
      try clear hfz56_1
      try clear hfz56_2
      try clear hfz56_3
      try clear hfz56_4
      try clear hfz56_5
      try clear hfz57_0
      try clear hfz57_1
      try clear hfz57_2
      try clear hfz57_3
      try clear hfz8_0
      try clear hfz8_1
      try clear hfz8_2
      try clear hfz8_3
      try clear hx157_0
      try clear hx157_1
      try clear hx157_2
      try clear hx157_3
      try clear hx157_4
      try clear hx157_5
      try clear hx161_0
      try clear hx161_1
      try clear hx161_2
      try clear hx161_3
      try clear hx161_4
      try clear hx161_5
      try clear p157
      try clear p161
      try clear p2
      try clear q157
      try clear q161
      obtain ⟨kq, x69_6, rfl, HA, HJ6, BK156, BK158, HB⟩ := hcut
      cases kq with
      | zero => exact absurd HA.out (by simp [portreeveref04_open.j1])
      | succ kj6 =>
       have H := HA.out
       clear HA
       simp only [portreeveref04_open.j1] at H
       by_cases c58 : x69_6 = true
       ·subst c58
        have H1 : (some false) = some r := by rw [if_pos rfl] at H; exact H
        clear H
        have H := H1
        clear H1
        obtain rfl := Option.some.inj H
        go_wp2
        repeat (go_quiet (fail); try go_wp2)
        go_ret
        exact ⟨by first | rfl | (simp [errW_none, errW_some] <;> rfl) | (simp [*, errW_none, errW_some] <;> rfl), by repeat (first | (with_reducible first | exact HB.out | apply pA | apply pN | apply pD | refine pS ?_ GE156.out | refine pS ?_ GE158.out) | exact HB.out)⟩
       ·replace c58 := Bool.eq_false_iff.mpr c58
        subst c58
        have H1 : (portreeveref04_open.l1 kj6 x3_1 0 a0_0 l0_1 l0_2 l0_3 ((rd_T76 l0_1 x3_1).f0) ((rd_T76 l0_1 x3_1).f1) ((rd_T76 l0_1 x3_1).f2) ((rd_T76 l0_1 x3_1).f3) ((rd_T76 l0_1 x3_1).f4) ((rd_T76 l0_1 x3_1).f5)) = some r := by rw [if_neg (show ¬ (false = true) by decide)] at H; exact H
        clear H
        have H := H1
        clear H1
        have H' := Aside0.mk H
        clear H
        go_wp2
        repeat (go_quiet (fail); try go_wp2)
        go_loopg [7] kj6 (fun kq v7 w' => ∃ (x7_3 : Int), v7 = .int .i64 x7_3 ∧ Aside0 (portreeveref04_open.l1 kq x3_1 x7_3 a0_0 l0_1 l0_2 l0_3 ((rd_T76 l0_1 x3_1).f0) ((rd_T76 l0_1 x3_1).f1) ((rd_T76 l0_1 x3_1).f2) ((rd_T76 l0_1 x3_1).f3) ((rd_T76 l0_1 x3_1).f4) ((rd_T76 l0_1 x3_1).f5) = some r) ∧ Aside0 (kq ≤ kj6) ∧ Aside0 (w'.heap[gb156]? = some (.cells #[.int .i64 a0_0, (.slice (some ad157) l0_1.length c0_1), (.slice A0_2 l0_2.length c0_2), (.slice A0_3 l0_3.length c0_3)] 26 (0, 0))) ∧ Aside0 (w'.heap[gb158]? = some (.cells #[.int .i64 ((rd_T76 l0_1 x3_1).f0), .int .i64 ((rd_T76 l0_1 x3_1).f1), .int .u32 ((rd_T76 l0_1 x3_1).f2), .string ((rd_T76 l0_1 x3_1).f3), .int .u64 ((rd_T76 l0_1 x3_1).f4), .int .u64 ((rd_T76 l0_1 x3_1).f5)] 76 (0, 0))) ∧ Aside0 (Below w.heap.size w w'))
        case atStart => exact ⟨(0), (by first | rfl | (simp; done) | (simp [*]; done)), H', ⟨Nat.le_refl _⟩, ⟨zB BK156.out⟩, ⟨zB BK158.out⟩, ⟨by repeat (first | (with_reducible first | exact HB.out | apply pA | apply pN | apply pD | refine pS ?_ GE156.out | refine pS ?_ GE158.out) | exact HB.out)⟩⟩
        case round =>
         clear H'
         try clear c1
         try clear p1
         try clear q1
         try clear hx1
         try clear c2
         try clear p2
         try clear c3
         try clear c3b0
         try clear c4
         try clear c4b0
         try clear c5
         try clear p6
         try clear c10
         try clear c13
         try clear c13b0
         try clear c14
         try clear p15
         try clear q15
         try clear hx15
         try clear c16
         try clear c16b0
         try clear p16
         try clear q16
         try clear hx16
         try clear c17
         try clear c20
         try clear c20b0
         try clear c22
         try clear c22b0
         try clear c23
         try clear c23b0
         try clear c24
         try clear c24b0
         try clear c25
         try clear c26
         try clear c28
         try clear c28b0
         try clear c29
         try clear c32
         try clear c32b0
         try clear c33
         try clear c36
         try clear c37
         try clear c40
         try clear c43
         try clear c43b0
         try clear c44
         try clear c47
         try clear c47b0
         try clear c48
         try clear c51
         try clear c52
         try clear c55
         try clear c58
         try clear hcz11_0
         try clear hcz11_1
         try clear hcz11_2
         try clear hcz11_3
         try clear hcz11_4
         try clear hcz11_5
         try clear hcz15_0
         try clear hcz15_1
         try clear hcz15_2
         try clear hcz15_3
         try clear hcz15_4
         try clear hcz15_5
         try clear hcz18_0
         try clear hcz18_1
         try clear hcz18_2
         try clear hcz18_3
         try clear hcz18_4
         try clear hcz18_5
         try clear hcz19_0
         try clear hcz19_1
         try clear hcz19_2
         try clear hcz19_3
         try clear hcz26_0
         try clear hcz26_1
         try clear hcz26_2
         try clear hcz26_3
         try clear hcz26_4
         try clear hcz26_5
         try clear hcz27_0
         try clear hcz27_1
         try clear hcz27_2
         try clear hcz27_3
         try clear hcz30_0
         try clear hcz30_1
         try clear hcz30_2
         try clear hcz30_3
         try clear hcz30_4
         try clear hcz30_5
         try clear hcz31_0
         try clear hcz31_1
         try clear hcz31_2
         try clear hcz31_3
         try clear hcz34_0
         try clear hcz34_1
         try clear hcz34_2
         try clear hcz34_3
         try clear hcz34_4
         try clear hcz34_5
         try clear hcz35_0
         try clear hcz35_1
         try clear hcz35_2
         try clear hcz35_3
         try clear hcz38_0
         try clear hcz38_1
         try clear hcz38_2
         try clear hcz38_3
         try clear hcz38_4
         try clear hcz38_5
         try clear hcz39_0
         try clear hcz39_1
         try clear hcz39_2
         try clear hcz39_3
         try clear hcz41_0
         try clear hcz41_1
         try clear hcz41_2
         try clear hcz41_3
         try clear hcz41_4
         try clear hcz41_5
         try clear hcz42_0
         try clear hcz42_1
         try clear hcz42_2
         try clear hcz42_3
         try clear hcz45_0
         try clear hcz45_1
         try clear hcz45_2
         try clear hcz45_3
         try clear hcz45_4
         try clear hcz45_5
         try clear hcz46_0
         try clear hcz46_1
         try clear hcz46_2
         try clear hcz46_3
         try clear hcz49_0
         try clear hcz49_1
         try clear hcz49_2
         try clear hcz49_3
         try clear hcz49_4
         try clear hcz49_5
         try clear hcz50_0
         try clear hcz50_1
         try clear hcz50_2
         try clear hcz50_3
         try clear hcz53_0
         try clear hcz53_1
         try clear hcz53_2
         try clear hcz53_3
         try clear hcz53_4
         try clear hcz53_5
         try clear hcz54_0
         try clear hcz54_1
         try clear hcz54_2
         try clear hcz54_3
         try clear hcz56_0
         try clear hcz56_1
         try clear hcz56_2
         try clear hcz56_3
         try clear hcz56_4
         try clear hcz56_5
         try clear hcz57_0
         try clear hcz57_1
         try clear hcz57_2
         try clear hcz57_3
         try clear hcz8_0
         try clear hcz8_1
         try clear hcz8_2
         try clear hcz8_3
         try clear hfz11_0
         try clear hfz11_1
         try clear hfz11_2
         try clear hfz11_3
         try clear hfz11_4
         try clear hfz11_5
         try clear hfz15_0
         try clear hfz15_1
         try clear hfz15_2
         try clear hfz15_3
         try clear hfz15_4
         try clear hfz15_5
         try clear hfz18_0
         try clear hfz18_1
         try clear hfz18_2
         try clear hfz18_3
         try clear hfz18_4
         try clear hfz18_5
         try clear hfz19_0
         try clear hfz19_1
         try clear hfz19_2
         try clear hfz19_3
         try clear hfz26_0
         try clear hfz26_1
         try clear hfz26_2
         try clear hfz26_3
         try clear hfz26_4
         try clear hfz26_5
         try clear hfz27_0
         try clear hfz27_1
         try clear hfz27_2
         try clear hfz27_3
         try clear hfz30_0
         try clear hfz30_1
         try clear hfz30_2
         try clear hfz30_3
         try clear hfz30_4
         try clear hfz30_5
         try clear hfz31_0
         try clear hfz31_1
         try clear hfz31_2
         try clear hfz31_3
         try clear hfz34_0
         try clear hfz34_1
         try clear hfz34_2
         try clear hfz34_3
         try clear hfz34_4
         try clear hfz34_5
         try clear hfz35_0
         try clear hfz35_1
         try clear hfz35_2
         try clear hfz35_3
         try clear hfz38_0
         try clear hfz38_1
         try clear hfz38_2
         try clear hfz38_3
         try clear hfz38_4
         try clear hfz38_5
         try clear hfz39_0
         try clear hfz39_1
         try clear hfz39_2
         try clear hfz39_3
         try clear hfz41_0
         try clear hfz41_1
         try clear hfz41_2
         try clear hfz41_3
         try clear hfz41_4
         try clear hfz41_5
         try clear hfz42_0
         try clear hfz42_1
         try clear hfz42_2
         try clear hfz42_3
         try clear hfz45_0
         try clear hfz45_1
         try clear hfz45_2
         try clear hfz45_3
         try clear hfz45_4
         try clear hfz45_5
         try clear hfz46_0
         try clear hfz46_1
         try clear hfz46_2
         try clear hfz46_3
         try clear hfz49_0
         try clear hfz49_1
         try clear hfz49_2
         try clear hfz49_3
         try clear hfz49_4
         try clear hfz49_5
         try clear hfz50_0
         try clear hfz50_1
         try clear hfz50_2
         try clear hfz50_3
         try clear hfz53_0
         try clear hfz53_1
         try clear hfz53_2
         try clear hfz53_3
         try clear hfz53_4
         try clear hfz53_5
         try clear hfz54_0
         try clear hfz54_1
         try clear hfz54_2
         try clear hfz54_3
         try clear hfz56_0
         try clear hfz56_1
         try clear hfz56_2
         try clear hfz56_3
         try clear hfz56_4
         try clear hfz56_5
         try clear hfz57_0
         try clear hfz57_1
         try clear hfz57_2
         try clear hfz57_3
         try clear hfz8_0
         try clear hfz8_1
         try clear hfz8_2
         try clear hfz8_3
         try clear hx157_0
         try clear hx157_1
         try clear hx157_2
         try clear hx157_3
         try clear hx157_4
         try clear hx157_5
         try clear hx161_0
         try clear hx161_1
         try clear hx161_2
         try clear hx161_3
         try clear hx161_4
         try clear hx161_5
         try clear p1
         try clear p15
         try clear p157
         try clear p16
         try clear p161
         try clear p2
         try clear p6
         try clear q1
         try clear q15
         try clear q157
         try clear q16
         try clear q161
         obtain ⟨x7_3, rfl, HA, HK3, BK156, BK158, HB⟩ := hrel
         cases gk with
         | zero => exact absurd HA.out (by simp [portreeveref04_open.l1])
         | succ k3 =>
          have H := HA.out
          clear HA
          simp only [portreeveref04_open.l1] at H
          by_cases c59 : x7_3 < x3_1
          ·rw [if_pos c59] at H
           have c59b0 : decide (x7_3 < x3_1) = true := decide_eq_true c59
           clear c59
           have HC60 := Aside0.mk H
           clear H
           go_upto_region 12 with (fail)
           repeat (go_quiet (fail); go_upto_region 12 with (fail))
           go_cut [94] (fun v94 wc => ∃ (kq : Nat) (x94_59 : Bool), v94 = .bool x94_59 ∧ Aside0 (portreeveref04_open.j3 kq x3_1 x7_3 x94_59 a0_0 l0_1 l0_2 l0_3 ((rd_T76 l0_1 x3_1).f0) ((rd_T76 l0_1 x3_1).f1) ((rd_T76 l0_1 x3_1).f2) ((rd_T76 l0_1 x3_1).f3) ((rd_T76 l0_1 x3_1).f4) ((rd_T76 l0_1 x3_1).f5) = some r) ∧ Aside0 (kq ≤ k3) ∧ Aside0 (wc.heap[gb156]? = some (.cells #[.int .i64 a0_0, (.slice (some ad157) l0_1.length c0_1), (.slice A0_2 l0_2.length c0_2), (.slice A0_3 l0_3.length c0_3)] 26 (0, 0))) ∧ Aside0 (wc.heap[gb158]? = some (.cells #[.int .i64 ((rd_T76 l0_1 x3_1).f0), .int .i64 ((rd_T76 l0_1 x3_1).f1), .int .u32 ((rd_T76 l0_1 x3_1).f2), .string ((rd_T76 l0_1 x3_1).f3), .int .u64 ((rd_T76 l0_1 x3_1).f4), .int .u64 ((rd_T76 l0_1 x3_1).f5)] 76 (0, 0))) ∧ Aside0 (Below w.heap.size w wc))
           case first =>
            have H := HC60.out
            clear HC60
            by_cases c61 : 0 ≤ x7_3
            ·rw [if_pos c61] at H
             have c61b0 : decide (0 ≤ x7_3) = true := decide_eq_true c61
             clear c61
             (first | rw [c61b0] | (simp only [i64_w, i32_w]; rw [c61b0]) | skip)
             by_cases c62 : x7_3 < (l0_1.length : Int)
             ·rw [if_pos c62] at H
              have c62b0 : decide (x7_3 < (l0_1.length : Int)) = true := decide_eq_true c62
              clear c62
              by_cases c63 : ((rd_T76 l0_1 x7_3).f1) = ((rd_T76 l0_1 x3_1).f1)
              ·rw [if_pos c63] at H
               have c63b0 : (((rd_T76 l0_1 x7_3).f1) == ((rd_T76 l0_1 x3_1).f1)) = true := beq_iff_eq.mpr c63
               have c63b1 : (((rd_T76 l0_1 x7_3).f1) != ((rd_T76 l0_1 x3_1).f1)) = false := bne_eq_false_iff_eq.mpr c63
               clear c63
               have H' := Aside0.mk H
               clear H
               have hnb64 := NB156_158.out
               have hnc64 := NB158_156.out
               obtain ⟨hcz65_0, hcz65_1, hcz65_2, hcz65_3, hfz65_0, hfz65_1, hfz65_2, hfz65_3⟩ := bk4 BK156.out
               have p162 : 0 ≤ (x7_3 : Int) := of_decide_eq_true (by first | (with_reducible assumption) | assumption)
               have q162 : x7_3 < (l0_1.length : Int) := of_decide_eq_true (by first | (with_reducible assumption) | assumption)
               obtain ⟨ad162, e162, hx162_0, hx162_1, hx162_2, hx162_3, hx162_4, hx162_5⟩ := at_T76 HR0_1.out x7_3 p162 q162
               obtain rfl : ad157 = ad162 := (by injection e162)
               replace hx162_0 := (HB.out.cell (World.block_lt_of_cell? w _ hx162_0)).trans hx162_0
               replace hx162_1 := (HB.out.cell (World.block_lt_of_cell? w _ hx162_1)).trans hx162_1
               replace hx162_2 := (HB.out.cell (World.block_lt_of_cell? w _ hx162_2)).trans hx162_2
               replace hx162_3 := (HB.out.cell (World.block_lt_of_cell? w _ hx162_3)).trans hx162_3
               replace hx162_4 := (HB.out.cell (World.block_lt_of_cell? w _ hx162_4)).trans hx162_4
               replace hx162_5 := (HB.out.cell (World.block_lt_of_cell? w _ hx162_5)).trans hx162_5
               replace p162 := eq_true p162
               replace q162 := eq_true q162
               obtain ⟨hcz66_0, hcz66_1, hcz66_2, hcz66_3, hcz66_4, hcz66_5, hfz66_0, hfz66_1, hfz66_2, hfz66_3, hfz66_4, hfz66_5⟩ := bk6 BK158.out
               go_wp2
               repeat (go_quiet (fail); try go_wp2)
               go_meet
               case rel => exact ⟨_, (true), (by first | rfl | (simp; done) | (simp [*]; done)), H', ⟨by have := HK1.out; have := HJ6.out; have := HK3.out; first | omega | exact Nat.le_refl _⟩, ⟨zB BK156.out⟩, ⟨zB BK158.out⟩, ⟨by repeat (first | (with_reducible first | exact HB.out | apply pA | apply pN | apply pD | refine pS ?_ GE156.out | refine pS ?_ GE158.out) | exact HB.out)⟩⟩
              ·rw [if_neg c63] at H
               have c63b0 : (((rd_T76 l0_1 x7_3).f1) == ((rd_T76 l0_1 x3_1).f1)) = false := beq_eq_false_iff_ne.mpr c63
               have c63b1 : (((rd_T76 l0_1 x7_3).f1) != ((rd_T76 l0_1 x3_1).f1)) = true := bne_iff_ne.mpr c63
               have H' := Aside0.mk H
               clear H
               have hnb67 := NB156_158.out
               have hnc67 := NB158_156.out
               obtain ⟨hcz68_0, hcz68_1, hcz68_2, hcz68_3, hfz68_0, hfz68_1, hfz68_2, hfz68_3⟩ := bk4 BK156.out
               have p162 : 0 ≤ (x7_3 : Int) := of_decide_eq_true (by first | (with_reducible assumption) | assumption)
               have q162 : x7_3 < (l0_1.length : Int) := of_decide_eq_true (by first | (with_reducible assumption) | assumption)
               obtain ⟨ad162, e162, hx162_0, hx162_1, hx162_2, hx162_3, hx162_4, hx162_5⟩ := at_T76 HR0_1.out x7_3 p162 q162
               obtain rfl : ad157 = ad162 := (by injection e162)
               replace hx162_0 := (HB.out.cell (World.block_lt_of_cell? w _ hx162_0)).trans hx162_0
               replace hx162_1 := (HB.out.cell (World.block_lt_of_cell? w _ hx162_1)).trans hx162_1
               replace hx162_2 := (HB.out.cell (World.block_lt_of_cell? w _ hx162_2)).trans hx162_2
               replace hx162_3 := (HB.out.cell (World.block_lt_of_cell? w _ hx162_3)).trans hx162_3
               replace hx162_4 := (HB.out.cell (World.block_lt_of_cell? w _ hx162_4)).trans hx162_4
               replace hx162_5 := (HB.out.cell (World.block_lt_of_cell? w _ hx162_5)).trans hx162_5
               replace p162 := eq_true p162
               replace q162 := eq_true q162
               obtain ⟨hcz69_0, hcz69_1, hcz69_2, hcz69_3, hcz69_4, hcz69_5, hfz69_0, hfz69_1, hfz69_2, hfz69_3, hfz69_4, hfz69_5⟩ := bk6 BK158.out
               have p163 : 0 ≤ (x7_3 : Int) := of_decide_eq_true (by first | (with_reducible assumption) | assumption)
               have q163 : x7_3 < (l0_1.length : Int) := of_decide_eq_true (by first | (with_reducible assumption) | assumption)
               obtain ⟨ad163, e163, hx163_0, hx163_1, hx163_2, hx163_3, hx163_4, hx163_5⟩ := at_T76 HR0_1.out x7_3 p163 q163
               obtain rfl : ad157 = ad163 := (by injection e163)
               replace hx163_0 := (HB.out.cell (World.block_lt_of_cell? w _ hx163_0)).trans hx163_0
               replace hx163_1 := (HB.out.cell (World.block_lt_of_cell? w _ hx163_1)).trans hx163_1
               replace hx163_2 := (HB.out.cell (World.block_lt_of_cell? w _ hx163_2)).trans hx163_2
               replace hx163_3 := (HB.out.cell (World.block_lt_of_cell? w _ hx163_3)).trans hx163_3
               replace hx163_4 := (HB.out.cell (World.block_lt_of_cell? w _ hx163_4)).trans hx163_4
               replace hx163_5 := (HB.out.cell (World.block_lt_of_cell? w _ hx163_5)).trans hx163_5
               replace p163 := eq_true p163
               replace q163 := eq_true q163
               go_wp2
               repeat (go_quiet (fail); try go_wp2)
               go_meet
               case rel => exact ⟨_, ((((rd_T76 l0_1 x7_3).f2) == ((rd_T76 l0_1 x3_1).f2))), (by first | rfl | (simp; done) | (simp [*]; done)), H', ⟨by have := HK1.out; have := HJ6.out; have := HK3.out; first | omega | exact Nat.le_refl _⟩, ⟨zB BK156.out⟩, ⟨zB BK158.out⟩, ⟨by repeat (first | (with_reducible first | exact HB.out | apply pA | apply pN | apply pD | refine pS ?_ GE156.out | refine pS ?_ GE158.out) | exact HB.out)⟩⟩
             ·rw [if_neg c62] at H
              exact absurd H (by simp)
            ·rw [if_neg c61] at H
             exact absurd H (by simp)
           case rest =>
            clear HC60
            try clear c1
            try clear p1
            try clear q1
            try clear hx1
            try clear c2
            try clear p2
            try clear c3
            try clear c3b0
            try clear c4
            try clear c4b0
            try clear c5
            try clear c6
            try clear p6
            try clear c10
            try clear c13
            try clear c13b0
            try clear c14
            try clear p15
            try clear q15
            try clear hx15
            try clear c16
            try clear c16b0
            try clear p16
            try clear q16
            try clear hx16
            try clear c17
            try clear c20
            try clear c20b0
            try clear c22
            try clear c22b0
            try clear c23
            try clear c23b0
            try clear c24
            try clear c24b0
            try clear c25
            try clear c26
            try clear c28
            try clear c28b0
            try clear c29
            try clear c32
            try clear c32b0
            try clear c33
            try clear c36
            try clear c37
            try clear c40
            try clear c43
            try clear c43b0
            try clear c44
            try clear c47
            try clear c47b0
            try clear c48
            try clear c51
            try clear c52
            try clear c55
            try clear c58
            try clear c59
            try clear c59b0
            try clear c61
            try clear c61b0
            try clear c62
            try clear c62b0
            try clear c63
            try clear c63b0
            try clear c63b1
            try clear c64
            try clear c67
            try clear hcz11_0
            try clear hcz11_1
            try clear hcz11_2
            try clear hcz11_3
            try clear hcz11_4
            try clear hcz11_5
            try clear hcz15_0
            try clear hcz15_1
            try clear hcz15_2
            try clear hcz15_3
            try clear hcz15_4
            try clear hcz15_5
            try clear hcz18_0
            try clear hcz18_1
            try clear hcz18_2
            try clear hcz18_3
            try clear hcz18_4
            try clear hcz18_5
            try clear hcz19_0
            try clear hcz19_1
            try clear hcz19_2
            try clear hcz19_3
            try clear hcz26_0
            try clear hcz26_1
            try clear hcz26_2
            try clear hcz26_3
            try clear hcz26_4
            try clear hcz26_5
            try clear hcz27_0
            try clear hcz27_1
            try clear hcz27_2
            try clear hcz27_3
            try clear hcz30_0
            try clear hcz30_1
            try clear hcz30_2
            try clear hcz30_3
            try clear hcz30_4
            try clear hcz30_5
            try clear hcz31_0
            try clear hcz31_1
            try clear hcz31_2
            try clear hcz31_3
            try clear hcz34_0
            try clear hcz34_1
            try clear hcz34_2
            try clear hcz34_3
            try clear hcz34_4
            try clear hcz34_5
            try clear hcz35_0
            try clear hcz35_1
            try clear hcz35_2
            try clear hcz35_3
            try clear hcz38_0
            try clear hcz38_1
            try clear hcz38_2
            try clear hcz38_3
            try clear hcz38_4
            try clear hcz38_5
            try clear hcz39_0
            try clear hcz39_1
            try clear hcz39_2
            try clear hcz39_3
            try clear hcz41_0
            try clear hcz41_1
            try clear hcz41_2
            try clear hcz41_3
            try clear hcz41_4
            try clear hcz41_5
            try clear hcz42_0
            try clear hcz42_1
            try clear hcz42_2
            try clear hcz42_3
            try clear hcz45_0
            try clear hcz45_1
            try clear hcz45_2
            try clear hcz45_3
            try clear hcz45_4
            try clear hcz45_5
            try clear hcz46_0
            try clear hcz46_1
            try clear hcz46_2
            try clear hcz46_3
            try clear hcz49_0
            try clear hcz49_1
            try clear hcz49_2
            try clear hcz49_3
            try clear hcz49_4
            try clear hcz49_5
            try clear hcz50_0
            try clear hcz50_1
            try clear hcz50_2
            try clear hcz50_3
            try clear hcz53_0
            try clear hcz53_1
            try clear hcz53_2
            try clear hcz53_3
            try clear hcz53_4
            try clear hcz53_5
            try clear hcz54_0
            try clear hcz54_1
            try clear hcz54_2
            try clear hcz54_3
            try clear hcz56_0
            try clear hcz56_1
            try clear hcz56_2
            try clear hcz56_3
            try clear hcz56_4
            try clear hcz56_5
            try clear hcz57_0
            try clear hcz57_1
            try clear hcz57_2
            try clear hcz57_3
            try clear hcz65_0
            try clear hcz65_1
            try clear hcz65_2
            try clear hcz65_3
            try clear hcz66_0
            try clear hcz66_1
            try clear hcz66_2
            try clear hcz66_3
            try clear hcz66_4
            try clear hcz66_5
            try clear hcz68_0
            try clear hcz68_1
            try clear hcz68_2
            try clear hcz68_3
            try clear hcz69_0
            try clear hcz69_1
            try clear hcz69_2
            try clear hcz69_3
            try clear hcz69_4
            try clear hcz69_5
            try clear hcz8_0
            try clear hcz8_1
            try clear hcz8_2
            try clear hcz8_3
            try clear hfz11_0
            try clear hfz11_1
            try clear hfz11_2
            try clear hfz11_3
            try clear hfz11_4
            try clear hfz11_5
            try clear hfz15_0
            try clear hfz15_1
            try clear hfz15_2
            try clear hfz15_3
            try clear hfz15_4
            try clear hfz15_5
            try clear hfz18_0
            try clear hfz18_1
            try clear hfz18_2
            try clear hfz18_3
            try clear hfz18_4
            try clear hfz18_5
            try clear hfz19_0
            try clear hfz19_1
            try clear hfz19_2
            try clear hfz19_3
            try clear hfz26_0
            try clear hfz26_1
            try clear hfz26_2
            try clear hfz26_3
            try clear hfz26_4
            try clear hfz26_5
            try clear hfz27_0
            try clear hfz27_1
            try clear hfz27_2
            try clear hfz27_3
            try clear hfz30_0
            try clear hfz30_1
            try clear hfz30_2
            try clear hfz30_3
            try clear hfz30_4
            try clear hfz30_5
            try clear hfz31_0
            try clear hfz31_1
            try clear hfz31_2
            try clear hfz31_3
            try clear hfz34_0
            try clear hfz34_1
            try clear hfz34_2
            try clear hfz34_3
            try clear hfz34_4
            try clear hfz34_5
            try clear hfz35_0
            try clear hfz35_1
            try clear hfz35_2
            try clear hfz35_3
            try clear hfz38_0
            try clear hfz38_1
            try clear hfz38_2
            try clear hfz38_3
            try clear hfz38_4
            try clear hfz38_5
            try clear hfz39_0
            try clear hfz39_1
            try clear hfz39_2
            try clear hfz39_3
            try clear hfz41_0
            try clear hfz41_1
            try clear hfz41_2
            try clear hfz41_3
            try clear hfz41_4
            try clear hfz41_5
            try clear hfz42_0
            try clear hfz42_1
            try clear hfz42_2
            try clear hfz42_3
            try clear hfz45_0
            try clear hfz45_1
            try clear hfz45_2
            try clear hfz45_3
            try clear hfz45_4
            try clear hfz45_5
            try clear hfz46_0
            try clear hfz46_1
            try clear hfz46_2
            try clear hfz46_3
            try clear hfz49_0
            try clear hfz49_1
            try clear hfz49_2
            try clear hfz49_3
            try clear hfz49_4
            try clear hfz49_5
            try clear hfz50_0
            try clear hfz50_1
            try clear hfz50_2
            try clear hfz50_3
            try clear hfz53_0
            try clear hfz53_1
            try clear hfz53_2
            try clear hfz53_3
            try clear hfz53_4
            try clear hfz53_5
            try clear hfz54_0
            try clear hfz54_1
            try clear hfz54_2
            try clear hfz54_3
            try clear hfz56_0
            try clear hfz56_1
            try clear hfz56_2
            try clear hfz56_3
            try clear hfz56_4
            try clear hfz56_5
            try clear hfz57_0
            try clear hfz57_1
            try clear hfz57_2
            try clear hfz57_3
            try clear hfz65_0
            try clear hfz65_1
            try clear hfz65_2
            try clear hfz65_3
            try clear hfz66_0
            try clear hfz66_1
            try clear hfz66_2
            try clear hfz66_3
            try clear hfz66_4
            try clear hfz66_5
            try clear hfz68_0
            try clear hfz68_1
            try clear hfz68_2
            try clear hfz68_3
            try clear hfz69_0
            try clear hfz69_1
            try clear hfz69_2
            try clear hfz69_3
            try clear hfz69_4
            try clear hfz69_5
            try clear hfz8_0
            try clear hfz8_1
            try clear hfz8_2
            try clear hfz8_3
            try clear hx157_0
            try clear hx157_1
            try clear hx157_2
            try clear hx157_3
            try clear hx157_4
            try clear hx157_5
            try clear hx161_0
            try clear hx161_1
            try clear hx161_2
            try clear hx161_3
            try clear hx161_4
            try clear hx161_5
            try clear hx162_0
            try clear hx162_1
            try clear hx162_2
            try clear hx162_3
            try clear hx162_4
            try clear hx162_5
            try clear hx163_0
            try clear hx163_1
            try clear hx163_2
            try clear hx163_3
            try clear hx163_4
            try clear hx163_5
            try clear p1
            try clear p15
            try clear p157
            try clear p16
            try clear p161
            try clear p162
            try clear p163
            try clear p2
            try clear p6
            try clear q1
            try clear q15
            try clear q157
            try clear q16
            try clear q161
            try clear q162
            try clear q163
            obtain ⟨kq, x94_59, rfl, HA, HJ59, BK156, BK158, HB⟩ := hcut
            cases kq with
            | zero => exact absurd HA.out (by simp [portreeveref04_open.j3])
            | succ kj59 =>
             have H := HA.out
             clear HA
             simp only [portreeveref04_open.j3] at H
             by_cases c70 : x94_59 = true
             ·subst c70
              have H1 : (some false) = some r := by rw [if_pos rfl] at H; exact H
              clear H
              have H := H1
              clear H1
              obtain rfl := Option.some.inj H
              go_wp2
              repeat (go_quiet (fail); try go_wp2)
              go_ret
              exact ⟨by first | rfl | (simp [errW_none, errW_some] <;> rfl) | (simp [*, errW_none, errW_some] <;> rfl), by repeat (first | (with_reducible first | exact HB.out | apply pA | apply pN | apply pD | refine pS ?_ GE156.out | refine pS ?_ GE158.out) | exact HB.out)⟩
             ·replace c70 := Bool.eq_false_iff.mpr c70
              subst c70
              have H1 : (portreeveref04_open.l1 kj59 x3_1 (wrap64 (x7_3 + 1)) a0_0 l0_1 l0_2 l0_3 ((rd_T76 l0_1 x3_1).f0) ((rd_T76 l0_1 x3_1).f1) ((rd_T76 l0_1 x3_1).f2) ((rd_T76 l0_1 x3_1).f3) ((rd_T76 l0_1 x3_1).f4) ((rd_T76 l0_1 x3_1).f5)) = some r := by rw [if_neg (show ¬ (false = true) by decide)] at H; exact H
              clear H
              have H := H1
              clear H1
              have H' := Aside0.mk H
              clear H
              go_wp2
              repeat (go_quiet (fail); try go_wp2)
              go_roundg kj59
              case measure => have := HK1.out; have := HJ6.out; have := HK3.out; have := HJ59.out; omega
              case rel => exact ⟨(wrap64 (x7_3 + 1)), (by first | rfl | (simp; done) | (simp [*]; done)), H', ⟨by have := HK1.out; have := HJ6.out; have := HK3.out; have := HJ59.out; omega⟩, ⟨zB BK156.out⟩, ⟨zB BK158.out⟩, ⟨by repeat (first | (with_reducible first | exact HB.out | apply pA | apply pN | apply pD | refine pS ?_ GE156.out | refine pS ?_ GE158.out) | exact HB.out)⟩⟩
          ·rw [if_neg c59] at H
           have c59b0 : decide (x7_3 < x3_1) = false := decide_eq_false c59
           clear c59
           have H' := Aside0.mk H
           clear H
           go_wp2
           repeat (go_quiet (fail); try go_wp2)
           go_roundg k3
           case measure => have := HK1.out; have := HJ6.out; have := HK3.out; omega
           case rel => exact ⟨(wrap64 (x3_1 + 1)), (by first | rfl | (simp; done) | (simp [*]; done)), H', ⟨by have := HK1.out; have := HJ6.out; have := HK3.out; omega⟩, ⟨zB BK156.out⟩, ⟨by repeat (first | (with_reducible first | exact HB.out | apply pA | apply pN | apply pD | refine pS ?_ GE156.out | refine pS ?_ GE158.out) | exact HB.out)⟩⟩
    ·rw [if_neg c4] at H
     exact absurd H (by simp)
   ·rw [if_neg c3] at H
    have c3b0 : decide (x3_1 < (l0_1.length : Int)) = false := decide_eq_false c3
    clear c3
    obtain rfl := Option.some.inj H
    obtain ⟨hcz71_0, hcz71_1, hcz71_2, hcz71_3, hfz71_0, hfz71_1, hfz71_2, hfz71_3⟩ := bk4 BK156.out
    go_wp2
    repeat (go_quiet (fail); try go_wp2)
    go_ret
    exact ⟨by first | rfl | (simp [errW_none, errW_some] <;> rfl) | (simp [*, errW_none, errW_some] <;> rfl), by repeat (first | (with_reducible first | exact HB.out | apply pA | apply pN | apply pD | refine pS ?_ GE156.out) | exact HB.out)⟩

end Go.Proofs.Ytocjadhpaecpaaa.Q

-- written by this session's own program (wip/tools/myprint.py), over the kit's print
import Derived.Test.YtocjadhpaecpaaaQx0
import Derived.Test.YtocjadhpaecpaaaQx2
import Derived.Test.YtocjadhpaecpaaaQx3
import Derived.Test.YtocjadhpaecpaaaQx4
namespace Go.Proofs.Ytocjadhpaecpaaa.Q
open Go.RowKit Go.Proofs.YtocjadhpaecpaaaW.PrintWords Go.Proofs.YtocjadhpaecpaaaW.PrintLast Go.Proofs.YtocjadhpaecpaaaW.PrintMore
open Go.Proofs.YtocjadhpaecpaaaV
attribute [local go_sem] max2_int min2_int max_two min_two max_three min_three max_four min_four   -- for this text's walks alone
set_option linter.unusedVariables false
set_option linter.unusedSimpArgs false

attribute [local go_sem high] eqA64 eqA72 eqA76
/-! ### portreeveref04_Same: function 18 -/
mutual
def portreeveref04_Same.j0 : Nat → Bool → Int → List (S76) → List (S72) → List (S64) → Int → List (S76) → List (S72) → List (S64) → Option (Bool)
 | 0, _, _, _, _, _, _, _, _, _ => none
 | k + 1, x39, x468000, x468001, x468002, x468003, x469000, x469001, x469002, x469003 => if x39 = true then (some false) else (portreeveref04_Same.l0 k 0 x468000 x468001 x468002 x468003 x469000 x469001 x469002 x469003)
def portreeveref04_Same.l0 : Nat → Int → Int → List (S76) → List (S72) → List (S64) → Int → List (S76) → List (S72) → List (S64) → Option (Bool)
 | 0, _, _, _, _, _, _, _, _, _ => none
 | k + 1, x5, x468000, x468001, x468002, x468003, x469000, x469001, x469002, x469003 => if x5 < (x468001.length : Int) then (if 0 ≤ x5 then (if x5 < (x469001.length : Int) then (if (!(((rd_T76 x468001 x5).f0) == ((rd_T76 x469001 x5).f0)) || (!(((rd_T76 x468001 x5).f1) == ((rd_T76 x469001 x5).f1)) || (!(((rd_T76 x468001 x5).f2) == ((rd_T76 x469001 x5).f2)) || (!((((rd_T76 x468001 x5).f3).toList) == (((rd_T76 x469001 x5).f3).toList)) || (!(((rd_T76 x468001 x5).f4) == ((rd_T76 x469001 x5).f4)) || (!(((rd_T76 x468001 x5).f5) == ((rd_T76 x469001 x5).f5)))))))) = true then (some false) else (portreeveref04_Same.l0 k (wrap64 (x5 + 1)) x468000 x468001 x468002 x468003 x469000 x469001 x469002 x469003)) else (none)) else (none)) else (portreeveref04_Same.l1 k 0 x468000 x468001 x468002 x468003 x469000 x469001 x469002 x469003)
def portreeveref04_Same.l1 : Nat → Int → Int → List (S76) → List (S72) → List (S64) → Int → List (S76) → List (S72) → List (S64) → Option (Bool)
 | 0, _, _, _, _, _, _, _, _, _ => none
 | k + 1, x6, x468000, x468001, x468002, x468003, x469000, x469001, x469002, x469003 => if x6 < (x468002.length : Int) then (if 0 ≤ x6 then (if x6 < (x469002.length : Int) then (if (!(((rd_T72 x468002 x6).f0) == ((rd_T72 x469002 x6).f0)) || (!(((rd_T72 x468002 x6).f1) == ((rd_T72 x469002 x6).f1)) || (!(((rd_T72 x468002 x6).f2) == ((rd_T72 x469002 x6).f2)) || (!(((rd_T72 x468002 x6).f3) == ((rd_T72 x469002 x6).f3)) || (!(((rd_T72 x468002 x6).f4) == ((rd_T72 x469002 x6).f4))))))) = true then (some false) else (portreeveref04_Same.l1 k (wrap64 (x6 + 1)) x468000 x468001 x468002 x468003 x469000 x469001 x469002 x469003)) else (none)) else (none)) else (portreeveref04_Same.l2 k 0 x468000 x468001 x468002 x468003 x469000 x469001 x469002 x469003)
def portreeveref04_Same.l2 : Nat → Int → Int → List (S76) → List (S72) → List (S64) → Int → List (S76) → List (S72) → List (S64) → Option (Bool)
 | 0, _, _, _, _, _, _, _, _, _ => none
 | k + 1, x7, x468000, x468001, x468002, x468003, x469000, x469001, x469002, x469003 => if x7 < (x468003.length : Int) then (if 0 ≤ x7 then (if x7 < (x469003.length : Int) then (if (!((((rd_T64 x468003 x7).f0).toList) == (((rd_T64 x469003 x7).f0).toList)) || (!(((rd_T64 x468003 x7).f1) == ((rd_T64 x469003 x7).f1)) || (!(((rd_T64 x468003 x7).f2) == ((rd_T64 x469003 x7).f2))))) = true then (some false) else (portreeveref04_Same.l2 k (wrap64 (x7 + 1)) x468000 x468001 x468002 x468003 x469000 x469001 x469002 x469003)) else (none)) else (none)) else (some true)
end
def portreeveref04_Same.f (k : Nat) (a0_0 : Int) (l0_1 : List (S76)) (l0_2 : List (S72)) (l0_3 : List (S64)) (a1_0 : Int) (l1_1 : List (S76)) (l1_2 : List (S72)) (l1_3 : List (S64)) : Option (Bool) := if a0_0 = a1_0 then (if (l0_1.length : Int) = (l1_1.length : Int) then (if (l0_2.length : Int) = (l1_2.length : Int) then (portreeveref04_Same.j0 k ((l0_3.length : Int) != (l1_3.length : Int)) a0_0 l0_1 l0_2 l0_3 a1_0 l1_1 l1_2 l1_3) else (portreeveref04_Same.j0 k true a0_0 l0_1 l0_2 l0_3 a1_0 l1_1 l1_2 l1_3)) else (portreeveref04_Same.j0 k true a0_0 l0_1 l0_2 l0_3 a1_0 l1_1 l1_2 l1_3)) else (portreeveref04_Same.j0 k true a0_0 l0_1 l0_2 l0_3 a1_0 l1_1 l1_2 l1_3)
theorem portreeveref04_Same.mono_l : ∀ k, (∀ y0 y1 y2 y3 y4 y5 y6 y7 y8, LeO (portreeveref04_Same.j0 k y0 y1 y2 y3 y4 y5 y6 y7 y8) (portreeveref04_Same.j0 (k + 1) y0 y1 y2 y3 y4 y5 y6 y7 y8)) ∧ (∀ y0 y1 y2 y3 y4 y5 y6 y7 y8, LeO (portreeveref04_Same.l0 k y0 y1 y2 y3 y4 y5 y6 y7 y8) (portreeveref04_Same.l0 (k + 1) y0 y1 y2 y3 y4 y5 y6 y7 y8)) ∧ (∀ y0 y1 y2 y3 y4 y5 y6 y7 y8, LeO (portreeveref04_Same.l1 k y0 y1 y2 y3 y4 y5 y6 y7 y8) (portreeveref04_Same.l1 (k + 1) y0 y1 y2 y3 y4 y5 y6 y7 y8)) ∧ (∀ y0 y1 y2 y3 y4 y5 y6 y7 y8, LeO (portreeveref04_Same.l2 k y0 y1 y2 y3 y4 y5 y6 y7 y8) (portreeveref04_Same.l2 (k + 1) y0 y1 y2 y3 y4 y5 y6 y7 y8))
 | 0 => ⟨fun _ _ _ _ _ _ _ _ _ r h => by simp [portreeveref04_Same.j0] at h, fun _ _ _ _ _ _ _ _ _ r h => by simp [portreeveref04_Same.l0] at h, fun _ _ _ _ _ _ _ _ _ r h => by simp [portreeveref04_Same.l1] at h, fun _ _ _ _ _ _ _ _ _ r h => by simp [portreeveref04_Same.l2] at h⟩
 | k + 1 => by
  obtain ⟨ih0, ih1, ih2, ih3⟩ := portreeveref04_Same.mono_l k
  refine ⟨?_, ?_, ?_, ?_⟩
  ·intro y0 y1 y2 y3 y4 y5 y6 y7 y8
   unfold portreeveref04_Same.j0
   repeat' first
   | (with_reducible exact ih0 _ _ _ _ _ _ _ _ _)
   | (with_reducible exact ih1 _ _ _ _ _ _ _ _ _)
   | (with_reducible exact ih2 _ _ _ _ _ _ _ _ _)
   | (with_reducible exact ih3 _ _ _ _ _ _ _ _ _)
   | (with_reducible exact LeO.refl _)
   | (with_reducible exact LeO.none _)
   | (with_reducible refine LeO.ite ?_ ?_)
   | (with_reducible refine LeO.bind ?_ (fun _ => ?_))
   | exact ih0 _ _ _ _ _ _ _ _ _
   | exact ih1 _ _ _ _ _ _ _ _ _
   | exact ih2 _ _ _ _ _ _ _ _ _
   | exact ih3 _ _ _ _ _ _ _ _ _
   | exact LeO.none _
   | refine LeO.ite ?_ ?_
   | refine LeO.bind ?_ (fun _ => ?_)
  ·intro y0 y1 y2 y3 y4 y5 y6 y7 y8
   unfold portreeveref04_Same.l0
   repeat' first
   | (with_reducible exact ih0 _ _ _ _ _ _ _ _ _)
   | (with_reducible exact ih1 _ _ _ _ _ _ _ _ _)
   | (with_reducible exact ih2 _ _ _ _ _ _ _ _ _)
   | (with_reducible exact ih3 _ _ _ _ _ _ _ _ _)
   | (with_reducible exact LeO.refl _)
   | (with_reducible exact LeO.none _)
   | (with_reducible refine LeO.ite ?_ ?_)
   | (with_reducible refine LeO.bind ?_ (fun _ => ?_))
   | exact ih0 _ _ _ _ _ _ _ _ _
   | exact ih1 _ _ _ _ _ _ _ _ _
   | exact ih2 _ _ _ _ _ _ _ _ _
   | exact ih3 _ _ _ _ _ _ _ _ _
   | exact LeO.none _
   | refine LeO.ite ?_ ?_
   | refine LeO.bind ?_ (fun _ => ?_)
  ·intro y0 y1 y2 y3 y4 y5 y6 y7 y8
   unfold portreeveref04_Same.l1
   repeat' first
   | (with_reducible exact ih0 _ _ _ _ _ _ _ _ _)
   | (with_reducible exact ih1 _ _ _ _ _ _ _ _ _)
   | (with_reducible exact ih2 _ _ _ _ _ _ _ _ _)
   | (with_reducible exact ih3 _ _ _ _ _ _ _ _ _)
   | (with_reducible exact LeO.refl _)
   | (with_reducible exact LeO.none _)
   | (with_reducible refine LeO.ite ?_ ?_)
   | (with_reducible refine LeO.bind ?_ (fun _ => ?_))
   | exact ih0 _ _ _ _ _ _ _ _ _
   | exact ih1 _ _ _ _ _ _ _ _ _
   | exact ih2 _ _ _ _ _ _ _ _ _
   | exact ih3 _ _ _ _ _ _ _ _ _
   | exact LeO.none _
   | refine LeO.ite ?_ ?_
   | refine LeO.bind ?_ (fun _ => ?_)
  ·intro y0 y1 y2 y3 y4 y5 y6 y7 y8
   unfold portreeveref04_Same.l2
   repeat' first
   | (with_reducible exact ih0 _ _ _ _ _ _ _ _ _)
   | (with_reducible exact ih1 _ _ _ _ _ _ _ _ _)
   | (with_reducible exact ih2 _ _ _ _ _ _ _ _ _)
   | (with_reducible exact ih3 _ _ _ _ _ _ _ _ _)
   | (with_reducible exact LeO.refl _)
   | (with_reducible exact LeO.none _)
   | (with_reducible refine LeO.ite ?_ ?_)
   | (with_reducible refine LeO.bind ?_ (fun _ => ?_))
   | exact ih0 _ _ _ _ _ _ _ _ _
   | exact ih1 _ _ _ _ _ _ _ _ _
   | exact ih2 _ _ _ _ _ _ _ _ _
   | exact ih3 _ _ _ _ _ _ _ _ _
   | exact LeO.none _
   | refine LeO.ite ?_ ?_
   | refine LeO.bind ?_ (fun _ => ?_)
theorem portreeveref04_Same.mono : ∀ a0 a1 a2 a3 a4 a5 a6 a7 k, LeO (portreeveref04_Same.f k a0 a1 a2 a3 a4 a5 a6 a7) (portreeveref04_Same.f (k + 1) a0 a1 a2 a3 a4 a5 a6 a7) := by
 intro a0 a1 a2 a3 a4 a5 a6 a7 k
 obtain ⟨ih0, ih1, ih2, ih3⟩ := portreeveref04_Same.mono_l k
 unfold portreeveref04_Same.f
 repeat' first
   | (with_reducible exact ih0 _ _ _ _ _ _ _ _ _)
   | (with_reducible exact ih1 _ _ _ _ _ _ _ _ _)
   | (with_reducible exact ih2 _ _ _ _ _ _ _ _ _)
   | (with_reducible exact ih3 _ _ _ _ _ _ _ _ _)
   | (with_reducible exact LeO.refl _)
   | (with_reducible exact LeO.none _)
   | (with_reducible refine LeO.ite ?_ ?_)
   | (with_reducible refine LeO.bind ?_ (fun _ => ?_))
   | exact ih0 _ _ _ _ _ _ _ _ _
   | exact ih1 _ _ _ _ _ _ _ _ _
   | exact ih2 _ _ _ _ _ _ _ _ _
   | exact ih3 _ _ _ _ _ _ _ _ _
   | exact LeO.none _
   | refine LeO.ite ?_ ?_
   | refine LeO.bind ?_ (fun _ => ?_)
set_option maxHeartbeats 8000000 in
set_option maxRecDepth 100000 in
theorem portreeveref04_Same.calls (k : Nat) (ak : Int) (ap : Option Addr) (aq : Nat) (aa : List (S76)) (ar : Option Addr) (au : Nat) (ac : List (S72)) (av : Option Addr) (aw : Nat) (af : List (S64)) (a1_0 : Int) (A1_1 : Option Addr) (c1_1 : Nat) (l1_1 : List (S76)) (A1_2 : Option Addr) (c1_2 : Nat) (l1_2 : List (S72)) (A1_3 : Option Addr) (c1_3 : Nat) (l1_3 : List (S64)) (r : Bool) (w : World) (hr0_1 : Kd.C k76 w ap aa.length aa) (hc0_1 : aa.length ≤ aq) (hr0_2 : Kd.C k72 w ar ac.length ac) (hc0_2 : ac.length ≤ au) (hr0_3 : Kd.C k64 w av af.length af) (hc0_3 : af.length ≤ aw) (hr1_1 : Kd.C k76 w A1_1 l1_1.length l1_1) (hc1_1 : l1_1.length ≤ c1_1) (hr1_2 : Kd.C k72 w A1_2 l1_2.length l1_2) (hc1_2 : l1_2.length ≤ c1_2) (hr1_3 : Kd.C k64 w A1_3 l1_3.length l1_3) (hc1_3 : l1_3.length ≤ c1_3) (h : portreeveref04_Same.f k ak aa ac af a1_0 l1_1 l1_2 l1_3 = some r) :
  Calls Try.prog 18 #[.agg #[.int .i64 ak, .slice ap aa.length aq, .slice ar ac.length au, .slice av af.length aw], .agg #[.int .i64 a1_0, .slice A1_1 l1_1.length c1_1, .slice A1_2 l1_2.length c1_2, .slice A1_3 l1_3.length c1_3]] w fun e w' => e = .returned (.bool r) ∧ Below w.heap.size w w' := by
 have hu26 := Try.underlying26
 have hu76 := Try.underlying76
 have hu72 := Try.underlying72
 have hu64 := Try.underlying64
 have cA := Aside0.mk hr0_1
 have HC0_1 := Aside0.mk hc0_1
 clear hr0_1 hc0_1
 have cB := Aside0.mk hr0_2
 have HC0_2 := Aside0.mk hc0_2
 clear hr0_2 hc0_2
 have cC := Aside0.mk hr0_3
 have HC0_3 := Aside0.mk hc0_3
 clear hr0_3 hc0_3
 have cD := Aside0.mk hr1_1
 have HC1_1 := Aside0.mk hc1_1
 clear hr1_1 hc1_1
 have cE := Aside0.mk hr1_2
 have HC1_2 := Aside0.mk hc1_2
 clear hr1_2 hc1_2
 have cF := Aside0.mk hr1_3
 have HC1_3 := Aside0.mk hc1_3
 clear hr1_3 hc1_3
 have HB := Aside0.mk (Below.refl w.heap.size w)
 have H : (if ak = a1_0 then (if (aa.length : Int) = (l1_1.length : Int) then (if (ac.length : Int) = (l1_2.length : Int) then (portreeveref04_Same.j0 k ((af.length : Int) != (l1_3.length : Int)) ak aa ac af a1_0 l1_1 l1_2 l1_3) else (portreeveref04_Same.j0 k true ak aa ac af a1_0 l1_1 l1_2 l1_3)) else (portreeveref04_Same.j0 k true ak aa ac af a1_0 l1_1 l1_2 l1_3)) else (portreeveref04_Same.j0 k true ak aa ac af a1_0 l1_1 l1_2 l1_3)) = some r := h
 clear h
 have HC3 := Aside0.mk H
 clear H
 go_enter Try.func18, Try.ntmps18
 go_upto_region 1 with (first | ((with_reducible refine gate_dst (N := 2) rfl ?_); (try (refine gate_guard (by rfl) ?_; dsimp only)); refine box_event ?hg (N := 2) ?hd (cs := #[.int .i64 ak, .slice ap aa.length aq, .slice ar ac.length au, .slice av af.length aw]) (t := 26) ?hr ?_; (case hd => rfl); (case hg => rfl); (case hr => first | (go_simp; done) | (go_simp; rfl)); intro aj hg w4 hbox hb; have n0_ := Aside0.mk (below_step (zH HB.out) hb); have n1_ := Aside0.mk (hbox); have n2_ := Aside0.mk ((by rw [hg]; exact (below_size (zH HB.out)) : w.heap.size ≤ aj)); have n3_ := Aside0.mk ((by rw [hg]; exact (below_size (zH HB.out)) : w.heap.size ≤ aj)); clear HB; have HB := n0_; have ad := n1_; have cG := n2_; have al := n3_; clear n0_ n1_ n2_ n3_; clear hb hbox hg) | ((with_reducible refine gate_dst (N := 3) rfl ?_); (try (refine gate_guard (by rfl) ?_; dsimp only)); refine box_event ?hg (N := 3) ?hd (cs := #[.int .i64 a1_0, .slice A1_1 l1_1.length c1_1, .slice A1_2 l1_2.length c1_2, .slice A1_3 l1_3.length c1_3]) (t := 26) ?hr ?_; (case hd => rfl); (case hg => rfl); (case hr => first | (go_simp; done) | (go_simp; rfl)); intro an hg w5 hbox hb; have n0_ := Aside0.mk (blk_below (g := aj) (o := .cells #[.int .i64 ak, .slice ap aa.length aq, .slice ar ac.length au, .slice av af.length aw] 26 (0, 0)) (zB ad.out) hb); have n1_ := Aside0.mk (below_step (by repeat (first | (with_reducible first | exact HB.out | apply pA | apply pN | apply pD | refine pS ?_ al.out) | exact HB.out)) hb); have n2_ := Aside0.mk (hbox); have n3_ := Aside0.mk ((by rw [hg]; exact (below_size (by repeat (first | (with_reducible first | exact HB.out | apply pA | apply pN | apply pD | refine pS ?_ al.out) | exact HB.out))) : w.heap.size ≤ an)); have n4_ := Aside0.mk ((by rw [hg]; exact (below_size (by repeat (first | (with_reducible first | exact HB.out | apply pA | apply pN | apply pD | refine pS ?_ al.out) | exact HB.out))) : w.heap.size ≤ an)); have n5_ := Aside0.mk ((by rw [hg]; exact Nat.ne_of_lt (blk_lt (g := aj) (o := .cells #[.int .i64 ak, .slice ap aa.length aq, .slice ar ac.length au, .slice av af.length aw] 26 (0, 0)) (zB ad.out)) : aj ≠ an)); have n6_ := Aside0.mk ((by rw [hg]; exact Nat.ne_of_gt (blk_lt (g := aj) (o := .cells #[.int .i64 ak, .slice ap aa.length aq, .slice ar ac.length au, .slice av af.length aw] 26 (0, 0)) (zB ad.out)) : an ≠ aj)); clear ad; clear HB; have ad := n0_; have HB := n1_; have am := n2_; have cH := n3_; have ao := n4_; have ah := n5_; have ai := n6_; clear n0_ n1_ n2_ n3_ n4_ n5_ n6_; clear hb hbox hg))
 repeat (go_quiet (first | ((with_reducible refine gate_dst (N := 2) rfl ?_); (try (refine gate_guard (by rfl) ?_; dsimp only)); refine box_event ?hg (N := 2) ?hd (cs := #[.int .i64 ak, .slice ap aa.length aq, .slice ar ac.length au, .slice av af.length aw]) (t := 26) ?hr ?_; (case hd => rfl); (case hg => rfl); (case hr => first | (go_simp; done) | (go_simp; rfl)); intro aj hg w4 hbox hb; have n0_ := Aside0.mk (below_step (zH HB.out) hb); have n1_ := Aside0.mk (hbox); have n2_ := Aside0.mk ((by rw [hg]; exact (below_size (zH HB.out)) : w.heap.size ≤ aj)); have n3_ := Aside0.mk ((by rw [hg]; exact (below_size (zH HB.out)) : w.heap.size ≤ aj)); clear HB; have HB := n0_; have ad := n1_; have cG := n2_; have al := n3_; clear n0_ n1_ n2_ n3_; clear hb hbox hg) | ((with_reducible refine gate_dst (N := 3) rfl ?_); (try (refine gate_guard (by rfl) ?_; dsimp only)); refine box_event ?hg (N := 3) ?hd (cs := #[.int .i64 a1_0, .slice A1_1 l1_1.length c1_1, .slice A1_2 l1_2.length c1_2, .slice A1_3 l1_3.length c1_3]) (t := 26) ?hr ?_; (case hd => rfl); (case hg => rfl); (case hr => first | (go_simp; done) | (go_simp; rfl)); intro an hg w5 hbox hb; have n0_ := Aside0.mk (blk_below (g := aj) (o := .cells #[.int .i64 ak, .slice ap aa.length aq, .slice ar ac.length au, .slice av af.length aw] 26 (0, 0)) (zB ad.out) hb); have n1_ := Aside0.mk (below_step (by repeat (first | (with_reducible first | exact HB.out | apply pA | apply pN | apply pD | refine pS ?_ al.out) | exact HB.out)) hb); have n2_ := Aside0.mk (hbox); have n3_ := Aside0.mk ((by rw [hg]; exact (below_size (by repeat (first | (with_reducible first | exact HB.out | apply pA | apply pN | apply pD | refine pS ?_ al.out) | exact HB.out))) : w.heap.size ≤ an)); have n4_ := Aside0.mk ((by rw [hg]; exact (below_size (by repeat (first | (with_reducible first | exact HB.out | apply pA | apply pN | apply pD | refine pS ?_ al.out) | exact HB.out))) : w.heap.size ≤ an)); have n5_ := Aside0.mk ((by rw [hg]; exact Nat.ne_of_lt (blk_lt (g := aj) (o := .cells #[.int .i64 ak, .slice ap aa.length aq, .slice ar ac.length au, .slice av af.length aw] 26 (0, 0)) (zB ad.out)) : aj ≠ an)); have n6_ := Aside0.mk ((by rw [hg]; exact Nat.ne_of_gt (blk_lt (g := aj) (o := .cells #[.int .i64 ak, .slice ap aa.length aq, .slice ar ac.length au, .slice av af.length aw] 26 (0, 0)) (zB ad.out)) : an ≠ aj)); clear ad; clear HB; have ad := n0_; have HB := n1_; have am := n2_; have cH := n3_; have ao := n4_; have ah := n5_; have ai := n6_; clear n0_ n1_ n2_ n3_ n4_ n5_ n6_; clear hb hbox hg)); go_upto_region 1 with (first | ((with_reducible refine gate_dst (N := 2) rfl ?_); (try (refine gate_guard (by rfl) ?_; dsimp only)); refine box_event ?hg (N := 2) ?hd (cs := #[.int .i64 ak, .slice ap aa.length aq, .slice ar ac.length au, .slice av af.length aw]) (t := 26) ?hr ?_; (case hd => rfl); (case hg => rfl); (case hr => first | (go_simp; done) | (go_simp; rfl)); intro aj hg w4 hbox hb; have n0_ := Aside0.mk (below_step (zH HB.out) hb); have n1_ := Aside0.mk (hbox); have n2_ := Aside0.mk ((by rw [hg]; exact (below_size (zH HB.out)) : w.heap.size ≤ aj)); have n3_ := Aside0.mk ((by rw [hg]; exact (below_size (zH HB.out)) : w.heap.size ≤ aj)); clear HB; have HB := n0_; have ad := n1_; have cG := n2_; have al := n3_; clear n0_ n1_ n2_ n3_; clear hb hbox hg) | ((with_reducible refine gate_dst (N := 3) rfl ?_); (try (refine gate_guard (by rfl) ?_; dsimp only)); refine box_event ?hg (N := 3) ?hd (cs := #[.int .i64 a1_0, .slice A1_1 l1_1.length c1_1, .slice A1_2 l1_2.length c1_2, .slice A1_3 l1_3.length c1_3]) (t := 26) ?hr ?_; (case hd => rfl); (case hg => rfl); (case hr => first | (go_simp; done) | (go_simp; rfl)); intro an hg w5 hbox hb; have n0_ := Aside0.mk (blk_below (g := aj) (o := .cells #[.int .i64 ak, .slice ap aa.length aq, .slice ar ac.length au, .slice av af.length aw] 26 (0, 0)) (zB ad.out) hb); have n1_ := Aside0.mk (below_step (by repeat (first | (with_reducible first | exact HB.out | apply pA | apply pN | apply pD | refine pS ?_ al.out) | exact HB.out)) hb); have n2_ := Aside0.mk (hbox); have n3_ := Aside0.mk ((by rw [hg]; exact (below_size (by repeat (first | (with_reducible first | exact HB.out | apply pA | apply pN | apply pD | refine pS ?_ al.out) | exact HB.out))) : w.heap.size ≤ an)); have n4_ := Aside0.mk ((by rw [hg]; exact (below_size (by repeat (first | (with_reducible first | exact HB.out | apply pA | apply pN | apply pD | refine pS ?_ al.out) | exact HB.out))) : w.heap.size ≤ an)); have n5_ := Aside0.mk ((by rw [hg]; exact Nat.ne_of_lt (blk_lt (g := aj) (o := .cells #[.int .i64 ak, .slice ap aa.length aq, .slice ar ac.length au, .slice av af.length aw] 26 (0, 0)) (zB ad.out)) : aj ≠ an)); have n6_ := Aside0.mk ((by rw [hg]; exact Nat.ne_of_gt (blk_lt (g := aj) (o := .cells #[.int .i64 ak, .slice ap aa.length aq, .slice ar ac.length au, .slice av af.length aw] 26 (0, 0)) (zB ad.out)) : an ≠ aj)); clear ad; clear HB; have ad := n0_; have HB := n1_; have am := n2_; have cH := n3_; have ao := n4_; have ah := n5_; have ai := n6_; clear n0_ n1_ n2_ n3_ n4_ n5_ n6_; clear hb hbox hg)))
 (try simp only [Act.put, sT, s0, s1])
 go_cut [39] (fun v39 wc => ∃ (kq : Nat) (bJ : Bool), v39 = .bool bJ ∧ Aside0 (portreeveref04_Same.j0 kq bJ ak aa ac af a1_0 l1_1 l1_2 l1_3 = some r) ∧ Aside0 (kq ≤ k) ∧ Aside0 (wc.heap[aj]? = some (.cells #[.int .i64 ak, (.slice ap aa.length aq), (.slice ar ac.length au), (.slice av af.length aw)] 26 (0, 0))) ∧ Aside0 (wc.heap[an]? = some (.cells #[.int .i64 a1_0, (.slice A1_1 l1_1.length c1_1), (.slice A1_2 l1_2.length c1_2), (.slice A1_3 l1_3.length c1_3)] 26 (0, 0))) ∧ Aside0 (Below w.heap.size w wc))
 case first =>
  have H := HC3.out
  clear HC3
  by_cases c6 : ak = a1_0
  ·rw [if_pos c6] at H
   have ax : (ak == a1_0) = true := beq_iff_eq.mpr c6
   have bK : (ak != a1_0) = false := bne_eq_false_iff_eq.mpr c6
   clear c6
   (first | rw [ax] | (simp only [i64_w, i32_w]; rw [ax]) | skip)
   by_cases c7 : (aa.length : Int) = (l1_1.length : Int)
   ·rw [if_pos c7] at H
    have bL : ((aa.length : Int) == (l1_1.length : Int)) = true := beq_iff_eq.mpr c7
    have bM : ((aa.length : Int) != (l1_1.length : Int)) = false := bne_eq_false_iff_eq.mpr c7
    have bN : (aa.length == l1_1.length) = true := by first | simpa using c7 | (simp at c7 ⊢; omega)
    clear c7
    by_cases c8 : (ac.length : Int) = (l1_2.length : Int)
    ·rw [if_pos c8] at H
     have bO : ((ac.length : Int) == (l1_2.length : Int)) = true := beq_iff_eq.mpr c8
     have bP : ((ac.length : Int) != (l1_2.length : Int)) = false := bne_eq_false_iff_eq.mpr c8
     have bQ : (ac.length == l1_2.length) = true := by first | simpa using c8 | (simp at c8 ⊢; omega)
     clear c8
     have H' := Aside0.mk H
     clear H
     have eQ := ah.out
     have eR := ai.out
     obtain ⟨ay, az, aA, aB, aC, aD, aE, aF⟩ := bk4 ad.out
     obtain ⟨aG, aH, aI, aJ, aK, aL, aM, aN⟩ := bk4 am.out
     go_wp2
     repeat (go_quiet (fail); try go_wp2)
     go_meet
     case rel => exact ⟨_, (((af.length : Int) != (l1_3.length : Int))), (by first | rfl | (simp; done) | (simp [*]; done)), H', ⟨by first | omega | exact Nat.le_refl _⟩, ⟨zB ad.out⟩, ⟨zB am.out⟩, ⟨by repeat (first | (with_reducible first | exact HB.out | apply pA | apply pN | apply pD | refine pS ?_ al.out | refine pS ?_ ao.out) | exact HB.out)⟩⟩
    ·rw [if_neg c8] at H
     have bO : ((ac.length : Int) == (l1_2.length : Int)) = false := beq_eq_false_iff_ne.mpr c8
     have bP : ((ac.length : Int) != (l1_2.length : Int)) = true := bne_iff_ne.mpr c8
     have bQ : (ac.length == l1_2.length) = false := by first | simpa using c8 | (simp at c8 ⊢; omega)
     have H' := Aside0.mk H
     clear H
     have eq := ah.out
     have er := ai.out
     obtain ⟨aO, aP, aQ, aR, aS, aT, aU, aV⟩ := bk4 ad.out
     obtain ⟨aW, aX, aY, aZ, a8, a9, ba, bb⟩ := bk4 am.out
     go_wp2
     repeat (go_quiet (fail); try go_wp2)
     go_meet
     case rel => exact ⟨_, (true), (by first | rfl | (simp; done) | (simp [*]; done)), H', ⟨by first | omega | exact Nat.le_refl _⟩, ⟨zB ad.out⟩, ⟨zB am.out⟩, ⟨by repeat (first | (with_reducible first | exact HB.out | apply pA | apply pN | apply pD | refine pS ?_ al.out | refine pS ?_ ao.out) | exact HB.out)⟩⟩
   ·rw [if_neg c7] at H
    have bL : ((aa.length : Int) == (l1_1.length : Int)) = false := beq_eq_false_iff_ne.mpr c7
    have bM : ((aa.length : Int) != (l1_1.length : Int)) = true := bne_iff_ne.mpr c7
    have bN : (aa.length == l1_1.length) = false := by first | simpa using c7 | (simp at c7 ⊢; omega)
    have H' := Aside0.mk H
    clear H
    have es := ah.out
    have et := ai.out
    obtain ⟨bc, bd, be, bf, bg, bh, bi, bj⟩ := bk4 ad.out
    obtain ⟨bk, bl, bm, bn, bo, bp, bq, br⟩ := bk4 am.out
    go_wp2
    repeat (go_quiet (fail); try go_wp2)
    go_meet
    case rel => exact ⟨_, (true), (by first | rfl | (simp; done) | (simp [*]; done)), H', ⟨by first | omega | exact Nat.le_refl _⟩, ⟨zB ad.out⟩, ⟨zB am.out⟩, ⟨by repeat (first | (with_reducible first | exact HB.out | apply pA | apply pN | apply pD | refine pS ?_ al.out | refine pS ?_ ao.out) | exact HB.out)⟩⟩
  ·rw [if_neg c6] at H
   have ax : (ak == a1_0) = false := beq_eq_false_iff_ne.mpr c6
   have bK : (ak != a1_0) = true := bne_iff_ne.mpr c6
   (first | rw [ax] | (simp only [i64_w, i32_w]; rw [ax]) | skip)
   have H' := Aside0.mk H
   clear H
   have eu := ah.out
   have ev := ai.out
   obtain ⟨bs, bt, bu, bv, bw, bx, bz, bA⟩ := bk4 ad.out
   obtain ⟨bB, bC, bD, bE, bF, bG, bH, bI⟩ := bk4 am.out
   go_wp2
   repeat (go_quiet (fail); try go_wp2)
   go_meet
   case rel => exact ⟨_, (true), (by first | rfl | (simp; done) | (simp [*]; done)), H', ⟨by first | omega | exact Nat.le_refl _⟩, ⟨zB ad.out⟩, ⟨zB am.out⟩, ⟨by repeat (first | (with_reducible first | exact HB.out | apply pA | apply pN | apply pD | refine pS ?_ al.out | refine pS ?_ ao.out) | exact HB.out)⟩⟩
 case rest =>
  clear HC3
  try clear c1
  try clear p2
  try clear c6
  try clear ax
  try clear bK
  try clear c7
  try clear bL
  try clear bM
  try clear bN
  try clear c8
  try clear bO
  try clear bP
  try clear bQ
  try clear c9
  try clear c12
  try clear c15
  try clear c18
  try clear ay
  try clear az
  try clear aA
  try clear aB
  try clear aG
  try clear aH
  try clear aI
  try clear aJ
  try clear aO
  try clear aP
  try clear aQ
  try clear aR
  try clear aW
  try clear aX
  try clear aY
  try clear aZ
  try clear bc
  try clear bd
  try clear be
  try clear bf
  try clear bk
  try clear bl
  try clear bm
  try clear bn
  try clear bs
  try clear bt
  try clear bu
  try clear bv
  try clear bB
  try clear bC
  try clear bD
  try clear bE
  try clear aC
  try clear aD
  try clear aE
  try clear aF
  try clear aK
  try clear aL
  try clear aM
  try clear aN
  try clear aS
  try clear aT
  try clear aU
  try clear aV
  try clear a8
  try clear a9
  try clear ba
  try clear bb
  try clear bg
  try clear bh
  try clear bi
  try clear bj
  try clear bo
  try clear bp
  try clear bq
  try clear br
  try clear bw
  try clear bx
  try clear bz
  try clear bA
  try clear bF
  try clear bG
  try clear bH
  try clear bI
  obtain ⟨kq, bJ, rfl, HA, bR, ad, am, HB⟩ := hcut
  cases kq with
  | zero => exact absurd HA.out (by simp [portreeveref04_Same.j0])
  | succ dA =>
   have H := HA.out
   clear HA
   simp only [portreeveref04_Same.j0] at H
   by_cases c21 : bJ = true
   ·subst c21
    have H1 : (some false) = some r := by rw [if_pos rfl] at H; exact H
    clear H
    have H := H1
    clear H1
    obtain rfl := Option.some.inj H
    go_wp2
    repeat (go_quiet (fail); try go_wp2)
    go_ret
    exact ⟨by first | rfl | (simp [errW_none, errW_some] <;> rfl) | (simp [*, errW_none, errW_some] <;> rfl), by repeat (first | (with_reducible first | exact HB.out | apply pA | apply pN | apply pD | refine pS ?_ al.out | refine pS ?_ ao.out) | exact HB.out)⟩
   ·replace c21 := Bool.eq_false_iff.mpr c21
    subst c21
    have H1 : (portreeveref04_Same.l0 dA 0 ak aa ac af a1_0 l1_1 l1_2 l1_3) = some r := by rw [if_neg (show ¬ (false = true) by decide)] at H; exact H
    clear H
    have H := H1
    clear H1
    have H' := Aside0.mk H
    clear H
    go_wp2
    repeat (go_quiet (fail); try go_wp2)
    go_loopg [5] dA (fun kq v5 w' => ∃ (ab : Int), v5 = .int .i64 ab ∧ Aside0 (portreeveref04_Same.l0 kq ab ak aa ac af a1_0 l1_1 l1_2 l1_3 = some r) ∧ Aside0 (kq ≤ dA) ∧ Aside0 (w'.heap[aj]? = some (.cells #[.int .i64 ak, (.slice ap aa.length aq), (.slice ar ac.length au), (.slice av af.length aw)] 26 (0, 0))) ∧ Aside0 (w'.heap[an]? = some (.cells #[.int .i64 a1_0, (.slice A1_1 l1_1.length c1_1), (.slice A1_2 l1_2.length c1_2), (.slice A1_3 l1_3.length c1_3)] 26 (0, 0))) ∧ Aside0 (Below w.heap.size w w'))
    case atStart => exact ⟨(0), (by first | rfl | (simp; done) | (simp [*]; done)), H', ⟨Nat.le_refl _⟩, ⟨zB ad.out⟩, ⟨zB am.out⟩, ⟨by repeat (first | (with_reducible first | exact HB.out | apply pA | apply pN | apply pD | refine pS ?_ al.out | refine pS ?_ ao.out) | exact HB.out)⟩⟩
    case round =>
     clear H'
     try clear c1
     try clear c2
     try clear p2
     try clear c6
     try clear ax
     try clear bK
     try clear c7
     try clear bL
     try clear bM
     try clear bN
     try clear c8
     try clear bO
     try clear bP
     try clear bQ
     try clear c9
     try clear c12
     try clear c15
     try clear c18
     try clear c21
     try clear ay
     try clear az
     try clear aA
     try clear aB
     try clear aG
     try clear aH
     try clear aI
     try clear aJ
     try clear aO
     try clear aP
     try clear aQ
     try clear aR
     try clear aW
     try clear aX
     try clear aY
     try clear aZ
     try clear bc
     try clear bd
     try clear be
     try clear bf
     try clear bk
     try clear bl
     try clear bm
     try clear bn
     try clear bs
     try clear bt
     try clear bu
     try clear bv
     try clear bB
     try clear bC
     try clear bD
     try clear bE
     try clear aC
     try clear aD
     try clear aE
     try clear aF
     try clear aK
     try clear aL
     try clear aM
     try clear aN
     try clear aS
     try clear aT
     try clear aU
     try clear aV
     try clear a8
     try clear a9
     try clear ba
     try clear bb
     try clear bg
     try clear bh
     try clear bi
     try clear bj
     try clear bo
     try clear bp
     try clear bq
     try clear br
     try clear bw
     try clear bx
     try clear bz
     try clear bA
     try clear bF
     try clear bG
     try clear bH
     try clear bI
     try clear p2
     obtain ⟨ab, rfl, HA, bS, ad, am, HB⟩ := hrel
     cases gk with
     | zero => exact absurd HA.out (by simp [portreeveref04_Same.l0])
     | succ k2 =>
      have H := HA.out
      clear HA
      simp only [portreeveref04_Same.l0] at H
      by_cases c22 : ab < (aa.length : Int)
      ·rw [if_pos c22] at H
       have cy : decide (ab < (aa.length : Int)) = true := decide_eq_true c22
       clear c22
       by_cases c23 : 0 ≤ ab
       ·rw [if_pos c23] at H
        have cI : decide (0 ≤ ab) = true := decide_eq_true c23
        clear c23
        by_cases c24 : ab < (l1_1.length : Int)
        ·rw [if_pos c24] at H
         have cJ : decide (ab < (l1_1.length : Int)) = true := decide_eq_true c24
         clear c24
         by_cases c25 : (!(((rd_T76 aa ab).f0) == ((rd_T76 l1_1 ab).f0)) || (!(((rd_T76 aa ab).f1) == ((rd_T76 l1_1 ab).f1)) || (!(((rd_T76 aa ab).f2) == ((rd_T76 l1_1 ab).f2)) || (!((((rd_T76 aa ab).f3).toList) == (((rd_T76 l1_1 ab).f3).toList)) || (!(((rd_T76 aa ab).f4) == ((rd_T76 l1_1 ab).f4)) || (!(((rd_T76 aa ab).f5) == ((rd_T76 l1_1 ab).f5)))))))) = true
         ·rw [if_pos c25] at H
          have cz : (!(((rd_T76 aa ab).f0) == ((rd_T76 l1_1 ab).f0)) || (!(((rd_T76 aa ab).f1) == ((rd_T76 l1_1 ab).f1)) || (!(((rd_T76 aa ab).f2) == ((rd_T76 l1_1 ab).f2)) || (!((((rd_T76 aa ab).f3).toList) == (((rd_T76 l1_1 ab).f3).toList)) || (!(((rd_T76 aa ab).f4) == ((rd_T76 l1_1 ab).f4)) || (!(((rd_T76 aa ab).f5) == ((rd_T76 l1_1 ab).f5)))))))) = true := c25
          clear c25
          obtain rfl := Option.some.inj H
          have ew := ah.out
          have ex := ai.out
          obtain ⟨bT, bU, bV, bW, bX, bY, bZ, b0⟩ := bk4 ad.out
          have p469 : 0 ≤ (ab : Int) := of_decide_eq_true (by first | (with_reducible assumption) | assumption)
          have q469 : ab < (aa.length : Int) := of_decide_eq_true (by first | (with_reducible assumption) | assumption)
          obtain ⟨dB, e469, hx469_0, hx469_1, hx469_2, hx469_3, hx469_4, hx469_5⟩ := at_T76 cA.out ab p469 q469
          cases e469
          replace hx469_0 := (HB.out.cell (World.block_lt_of_cell? w _ hx469_0)).trans hx469_0
          replace hx469_1 := (HB.out.cell (World.block_lt_of_cell? w _ hx469_1)).trans hx469_1
          replace hx469_2 := (HB.out.cell (World.block_lt_of_cell? w _ hx469_2)).trans hx469_2
          replace hx469_3 := (HB.out.cell (World.block_lt_of_cell? w _ hx469_3)).trans hx469_3
          replace hx469_4 := (HB.out.cell (World.block_lt_of_cell? w _ hx469_4)).trans hx469_4
          replace hx469_5 := (HB.out.cell (World.block_lt_of_cell? w _ hx469_5)).trans hx469_5
          replace p469 := eq_true p469
          replace q469 := eq_true q469
          obtain ⟨b1, b2, b3, b4, b5, b6, b7, b8⟩ := bk4 am.out
          have p470 : 0 ≤ (ab : Int) := of_decide_eq_true (by first | (with_reducible assumption) | assumption)
          have q470 : ab < (l1_1.length : Int) := of_decide_eq_true (by first | (with_reducible assumption) | assumption)
          obtain ⟨dC, e470, hx470_0, hx470_1, hx470_2, hx470_3, hx470_4, hx470_5⟩ := at_T76 cD.out ab p470 q470
          cases e470
          replace hx470_0 := (HB.out.cell (World.block_lt_of_cell? w _ hx470_0)).trans hx470_0
          replace hx470_1 := (HB.out.cell (World.block_lt_of_cell? w _ hx470_1)).trans hx470_1
          replace hx470_2 := (HB.out.cell (World.block_lt_of_cell? w _ hx470_2)).trans hx470_2
          replace hx470_3 := (HB.out.cell (World.block_lt_of_cell? w _ hx470_3)).trans hx470_3
          replace hx470_4 := (HB.out.cell (World.block_lt_of_cell? w _ hx470_4)).trans hx470_4
          replace hx470_5 := (HB.out.cell (World.block_lt_of_cell? w _ hx470_5)).trans hx470_5
          replace p470 := eq_true p470
          replace q470 := eq_true q470
          go_wp2
          repeat (go_quiet (fail); try go_wp2)
          go_ret
          exact ⟨by first | rfl | (simp [errW_none, errW_some] <;> rfl) | (simp [*, errW_none, errW_some] <;> rfl), by repeat (first | (with_reducible first | exact HB.out | apply pA | apply pN | apply pD | refine pS ?_ al.out | refine pS ?_ ao.out) | exact HB.out)⟩
         ·rw [if_neg c25] at H
          have cz : (!(((rd_T76 aa ab).f0) == ((rd_T76 l1_1 ab).f0)) || (!(((rd_T76 aa ab).f1) == ((rd_T76 l1_1 ab).f1)) || (!(((rd_T76 aa ab).f2) == ((rd_T76 l1_1 ab).f2)) || (!((((rd_T76 aa ab).f3).toList) == (((rd_T76 l1_1 ab).f3).toList)) || (!(((rd_T76 aa ab).f4) == ((rd_T76 l1_1 ab).f4)) || (!(((rd_T76 aa ab).f5) == ((rd_T76 l1_1 ab).f5)))))))) = false := by simpa using c25
          clear c25
          have H' := Aside0.mk H
          clear H
          have ey := ah.out
          have ez := ai.out
          obtain ⟨b9, ca, cb, cc, cd, ce, cf, cg⟩ := bk4 ad.out
          have p469 : 0 ≤ (ab : Int) := of_decide_eq_true (by first | (with_reducible assumption) | assumption)
          have q469 : ab < (aa.length : Int) := of_decide_eq_true (by first | (with_reducible assumption) | assumption)
          obtain ⟨dB, e469, hx469_0, hx469_1, hx469_2, hx469_3, hx469_4, hx469_5⟩ := at_T76 cA.out ab p469 q469
          cases e469
          replace hx469_0 := (HB.out.cell (World.block_lt_of_cell? w _ hx469_0)).trans hx469_0
          replace hx469_1 := (HB.out.cell (World.block_lt_of_cell? w _ hx469_1)).trans hx469_1
          replace hx469_2 := (HB.out.cell (World.block_lt_of_cell? w _ hx469_2)).trans hx469_2
          replace hx469_3 := (HB.out.cell (World.block_lt_of_cell? w _ hx469_3)).trans hx469_3
          replace hx469_4 := (HB.out.cell (World.block_lt_of_cell? w _ hx469_4)).trans hx469_4
          replace hx469_5 := (HB.out.cell (World.block_lt_of_cell? w _ hx469_5)).trans hx469_5
          replace p469 := eq_true p469
          replace q469 := eq_true q469
          obtain ⟨ch, ci, cj, ck, cl, cm, cn, co⟩ := bk4 am.out
          have p470 : 0 ≤ (ab : Int) := of_decide_eq_true (by first | (with_reducible assumption) | assumption)
          have q470 : ab < (l1_1.length : Int) := of_decide_eq_true (by first | (with_reducible assumption) | assumption)
          obtain ⟨dC, e470, hx470_0, hx470_1, hx470_2, hx470_3, hx470_4, hx470_5⟩ := at_T76 cD.out ab p470 q470
          cases e470
          replace hx470_0 := (HB.out.cell (World.block_lt_of_cell? w _ hx470_0)).trans hx470_0
          replace hx470_1 := (HB.out.cell (World.block_lt_of_cell? w _ hx470_1)).trans hx470_1
          replace hx470_2 := (HB.out.cell (World.block_lt_of_cell? w _ hx470_2)).trans hx470_2
          replace hx470_3 := (HB.out.cell (World.block_lt_of_cell? w _ hx470_3)).trans hx470_3
          replace hx470_4 := (HB.out.cell (World.block_lt_of_cell? w _ hx470_4)).trans hx470_4
          replace hx470_5 := (HB.out.cell (World.block_lt_of_cell? w _ hx470_5)).trans hx470_5
          replace p470 := eq_true p470
          replace q470 := eq_true q470
          go_wp2
          repeat (go_quiet (fail); try go_wp2)
          go_roundg k2
          case measure => have := bR.out; have := bS.out; omega
          case rel => exact ⟨(wrap64 (ab + 1)), (by first | rfl | (simp; done) | (simp [*]; done)), H', ⟨by have := bR.out; have := bS.out; omega⟩, ⟨zB ad.out⟩, ⟨zB am.out⟩, ⟨by repeat (first | (with_reducible first | exact HB.out | apply pA | apply pN | apply pD | refine pS ?_ al.out | refine pS ?_ ao.out) | exact HB.out)⟩⟩
        ·rw [if_neg c24] at H
         exact absurd H (by simp)
       ·rw [if_neg c23] at H
        exact absurd H (by simp)
      ·rw [if_neg c22] at H
       have cy : decide (ab < (aa.length : Int)) = false := decide_eq_false c22
       clear c22
       have H' := Aside0.mk H
       clear H
       have eA := ah.out
       have eB := ai.out
       obtain ⟨cp, cq, cr, ct, cu, cv, cw, cx⟩ := bk4 ad.out
       go_wp2
       repeat (go_quiet (fail); try go_wp2)
       go_loopg [6] k2 (fun kq v6 w' => ∃ (ae : Int), v6 = .int .i64 ae ∧ Aside0 (portreeveref04_Same.l1 kq ae ak aa ac af a1_0 l1_1 l1_2 l1_3 = some r) ∧ Aside0 (kq ≤ k2) ∧ Aside0 (w'.heap[aj]? = some (.cells #[.int .i64 ak, (.slice ap aa.length aq), (.slice ar ac.length au), (.slice av af.length aw)] 26 (0, 0))) ∧ Aside0 (w'.heap[an]? = some (.cells #[.int .i64 a1_0, (.slice A1_1 l1_1.length c1_1), (.slice A1_2 l1_2.length c1_2), (.slice A1_3 l1_3.length c1_3)] 26 (0, 0))) ∧ Aside0 (Below w.heap.size w w'))
       case atStart => exact ⟨(0), (by first | rfl | (simp; done) | (simp [*]; done)), H', ⟨Nat.le_refl _⟩, ⟨zB ad.out⟩, ⟨zB am.out⟩, ⟨by repeat (first | (with_reducible first | exact HB.out | apply pA | apply pN | apply pD | refine pS ?_ al.out | refine pS ?_ ao.out) | exact HB.out)⟩⟩
       case round =>
        clear H'
        try clear c1
        try clear c2
        try clear p2
        try clear c3
        try clear p4
        try clear q4
        try clear hx4
        try clear c6
        try clear ax
        try clear bK
        try clear p6
        try clear c7
        try clear bL
        try clear bM
        try clear bN
        try clear c8
        try clear bO
        try clear bP
        try clear bQ
        try clear c9
        try clear c12
        try clear c15
        try clear c18
        try clear c21
        try clear c22
        try clear cy
        try clear c23
        try clear cI
        try clear c24
        try clear cJ
        try clear c25
        try clear cz
        try clear c26
        try clear c29
        try clear c32
        try clear ay
        try clear az
        try clear aA
        try clear aB
        try clear aG
        try clear aH
        try clear aI
        try clear aJ
        try clear aO
        try clear aP
        try clear aQ
        try clear aR
        try clear aW
        try clear aX
        try clear aY
        try clear aZ
        try clear bc
        try clear bd
        try clear be
        try clear bf
        try clear bk
        try clear bl
        try clear bm
        try clear bn
        try clear bs
        try clear bt
        try clear bu
        try clear bv
        try clear bB
        try clear bC
        try clear bD
        try clear bE
        try clear bT
        try clear bU
        try clear bV
        try clear bW
        try clear b1
        try clear b2
        try clear b3
        try clear b4
        try clear b9
        try clear ca
        try clear cb
        try clear cc
        try clear ch
        try clear ci
        try clear cj
        try clear ck
        try clear cp
        try clear cq
        try clear cr
        try clear ct
        try clear aC
        try clear aD
        try clear aE
        try clear aF
        try clear aK
        try clear aL
        try clear aM
        try clear aN
        try clear aS
        try clear aT
        try clear aU
        try clear aV
        try clear a8
        try clear a9
        try clear ba
        try clear bb
        try clear bg
        try clear bh
        try clear bi
        try clear bj
        try clear bo
        try clear bp
        try clear bq
        try clear br
        try clear bw
        try clear bx
        try clear bz
        try clear bA
        try clear bF
        try clear bG
        try clear bH
        try clear bI
        try clear bX
        try clear bY
        try clear bZ
        try clear b0
        try clear b5
        try clear b6
        try clear b7
        try clear b8
        try clear cd
        try clear ce
        try clear cf
        try clear cg
        try clear cl
        try clear cm
        try clear cn
        try clear co
        try clear cu
        try clear cv
        try clear cw
        try clear cx
        try clear hx469_0
        try clear hx469_1
        try clear hx469_2
        try clear hx469_3
        try clear hx469_4
        try clear hx469_5
        try clear hx470_0
        try clear hx470_1
        try clear hx470_2
        try clear hx470_3
        try clear hx470_4
        try clear hx470_5
        try clear p2
        try clear p469
        try clear p470
        try clear q469
        try clear q470
        obtain ⟨ae, rfl, HA, cK, ad, am, HB⟩ := hrel
        cases gk with
        | zero => exact absurd HA.out (by simp [portreeveref04_Same.l1])
        | succ k3 =>
         have H := HA.out
         clear HA
         simp only [portreeveref04_Same.l1] at H
         by_cases c34 : ae < (ac.length : Int)
         ·rw [if_pos c34] at H
          have cL : decide (ae < (ac.length : Int)) = true := decide_eq_true c34
          clear c34
          by_cases c35 : 0 ≤ ae
          ·rw [if_pos c35] at H
           have dD : decide (0 ≤ ae) = true := decide_eq_true c35
           clear c35
           by_cases c36 : ae < (l1_2.length : Int)
           ·rw [if_pos c36] at H
            have dE : decide (ae < (l1_2.length : Int)) = true := decide_eq_true c36
            clear c36
            by_cases c37 : (!(((rd_T72 ac ae).f0) == ((rd_T72 l1_2 ae).f0)) || (!(((rd_T72 ac ae).f1) == ((rd_T72 l1_2 ae).f1)) || (!(((rd_T72 ac ae).f2) == ((rd_T72 l1_2 ae).f2)) || (!(((rd_T72 ac ae).f3) == ((rd_T72 l1_2 ae).f3)) || (!(((rd_T72 ac ae).f4) == ((rd_T72 l1_2 ae).f4))))))) = true
            ·rw [if_pos c37] at H
             have cM : (!(((rd_T72 ac ae).f0) == ((rd_T72 l1_2 ae).f0)) || (!(((rd_T72 ac ae).f1) == ((rd_T72 l1_2 ae).f1)) || (!(((rd_T72 ac ae).f2) == ((rd_T72 l1_2 ae).f2)) || (!(((rd_T72 ac ae).f3) == ((rd_T72 l1_2 ae).f3)) || (!(((rd_T72 ac ae).f4) == ((rd_T72 l1_2 ae).f4))))))) = true := c37
             clear c37
             obtain rfl := Option.some.inj H
             have eC := ah.out
             have eD := ai.out
             obtain ⟨cN, cO, cP, cQ, cR, cS, cT, cU⟩ := bk4 ad.out
             have p471 : 0 ≤ (ae : Int) := of_decide_eq_true (by first | (with_reducible assumption) | assumption)
             have q471 : ae < (ac.length : Int) := of_decide_eq_true (by first | (with_reducible assumption) | assumption)
             obtain ⟨dF, e471, hx471_0, hx471_1, hx471_2, hx471_3, hx471_4⟩ := at_T72 cB.out ae p471 q471
             cases e471
             replace hx471_0 := (HB.out.cell (World.block_lt_of_cell? w _ hx471_0)).trans hx471_0
             replace hx471_1 := (HB.out.cell (World.block_lt_of_cell? w _ hx471_1)).trans hx471_1
             replace hx471_2 := (HB.out.cell (World.block_lt_of_cell? w _ hx471_2)).trans hx471_2
             replace hx471_3 := (HB.out.cell (World.block_lt_of_cell? w _ hx471_3)).trans hx471_3
             replace hx471_4 := (HB.out.cell (World.block_lt_of_cell? w _ hx471_4)).trans hx471_4
             replace p471 := eq_true p471
             replace q471 := eq_true q471
             obtain ⟨cV, cW, cX, cY, cZ, c0, c5, da⟩ := bk4 am.out
             have p472 : 0 ≤ (ae : Int) := of_decide_eq_true (by first | (with_reducible assumption) | assumption)
             have q472 : ae < (l1_2.length : Int) := of_decide_eq_true (by first | (with_reducible assumption) | assumption)
             obtain ⟨dG, e472, hx472_0, hx472_1, hx472_2, hx472_3, hx472_4⟩ := at_T72 cE.out ae p472 q472
             cases e472
             replace hx472_0 := (HB.out.cell (World.block_lt_of_cell? w _ hx472_0)).trans hx472_0
             replace hx472_1 := (HB.out.cell (World.block_lt_of_cell? w _ hx472_1)).trans hx472_1
             replace hx472_2 := (HB.out.cell (World.block_lt_of_cell? w _ hx472_2)).trans hx472_2
             replace hx472_3 := (HB.out.cell (World.block_lt_of_cell? w _ hx472_3)).trans hx472_3
             replace hx472_4 := (HB.out.cell (World.block_lt_of_cell? w _ hx472_4)).trans hx472_4
             replace p472 := eq_true p472
             replace q472 := eq_true q472
             go_wp2
             repeat (go_quiet (fail); try go_wp2)
             go_ret
             exact ⟨by first | rfl | (simp [errW_none, errW_some] <;> rfl) | (simp [*, errW_none, errW_some] <;> rfl), by repeat (first | (with_reducible first | exact HB.out | apply pA | apply pN | apply pD | refine pS ?_ al.out | refine pS ?_ ao.out) | exact HB.out)⟩
            ·rw [if_neg c37] at H
             have cM : (!(((rd_T72 ac ae).f0) == ((rd_T72 l1_2 ae).f0)) || (!(((rd_T72 ac ae).f1) == ((rd_T72 l1_2 ae).f1)) || (!(((rd_T72 ac ae).f2) == ((rd_T72 l1_2 ae).f2)) || (!(((rd_T72 ac ae).f3) == ((rd_T72 l1_2 ae).f3)) || (!(((rd_T72 ac ae).f4) == ((rd_T72 l1_2 ae).f4))))))) = false := by simpa using c37
             clear c37
             have H' := Aside0.mk H
             clear H
             have eE := ah.out
             have eF := ai.out
             obtain ⟨db, dc, dd, de, df, dg, dh, di⟩ := bk4 ad.out
             have p471 : 0 ≤ (ae : Int) := of_decide_eq_true (by first | (with_reducible assumption) | assumption)
             have q471 : ae < (ac.length : Int) := of_decide_eq_true (by first | (with_reducible assumption) | assumption)
             obtain ⟨dF, e471, hx471_0, hx471_1, hx471_2, hx471_3, hx471_4⟩ := at_T72 cB.out ae p471 q471
             cases e471
             replace hx471_0 := (HB.out.cell (World.block_lt_of_cell? w _ hx471_0)).trans hx471_0
             replace hx471_1 := (HB.out.cell (World.block_lt_of_cell? w _ hx471_1)).trans hx471_1
             replace hx471_2 := (HB.out.cell (World.block_lt_of_cell? w _ hx471_2)).trans hx471_2
             replace hx471_3 := (HB.out.cell (World.block_lt_of_cell? w _ hx471_3)).trans hx471_3
             replace hx471_4 := (HB.out.cell (World.block_lt_of_cell? w _ hx471_4)).trans hx471_4
             replace p471 := eq_true p471
             replace q471 := eq_true q471
             obtain ⟨dj, dk, dl, dm, dn, dp, dq, dr⟩ := bk4 am.out
             have p472 : 0 ≤ (ae : Int) := of_decide_eq_true (by first | (with_reducible assumption) | assumption)
             have q472 : ae < (l1_2.length : Int) := of_decide_eq_true (by first | (with_reducible assumption) | assumption)
             obtain ⟨dG, e472, hx472_0, hx472_1, hx472_2, hx472_3, hx472_4⟩ := at_T72 cE.out ae p472 q472
             cases e472
             replace hx472_0 := (HB.out.cell (World.block_lt_of_cell? w _ hx472_0)).trans hx472_0
             replace hx472_1 := (HB.out.cell (World.block_lt_of_cell? w _ hx472_1)).trans hx472_1
             replace hx472_2 := (HB.out.cell (World.block_lt_of_cell? w _ hx472_2)).trans hx472_2
             replace hx472_3 := (HB.out.cell (World.block_lt_of_cell? w _ hx472_3)).trans hx472_3
             replace hx472_4 := (HB.out.cell (World.block_lt_of_cell? w _ hx472_4)).trans hx472_4
             replace p472 := eq_true p472
             replace q472 := eq_true q472
             go_wp2
             repeat (go_quiet (fail); try go_wp2)
             go_roundg k3
             case measure => have := bR.out; have := bS.out; have := cK.out; omega
             case rel => exact ⟨(wrap64 (ae + 1)), (by first | rfl | (simp; done) | (simp [*]; done)), H', ⟨by have := bR.out; have := bS.out; have := cK.out; omega⟩, ⟨zB ad.out⟩, ⟨zB am.out⟩, ⟨by repeat (first | (with_reducible first | exact HB.out | apply pA | apply pN | apply pD | refine pS ?_ al.out | refine pS ?_ ao.out) | exact HB.out)⟩⟩
           ·rw [if_neg c36] at H
            exact absurd H (by simp)
          ·rw [if_neg c35] at H
           exact absurd H (by simp)
         ·rw [if_neg c34] at H
          have cL : decide (ae < (ac.length : Int)) = false := decide_eq_false c34
          clear c34
          have H' := Aside0.mk H
          clear H
          have eG := ah.out
          have eH := ai.out
          obtain ⟨ds, dt, du, dv, dw, dx, dy, dz⟩ := bk4 ad.out
          go_wp2
          repeat (go_quiet (fail); try go_wp2)
          go_loopg [7] k3 (fun kq v7 w' => ∃ (ag : Int), v7 = .int .i64 ag ∧ Aside0 (portreeveref04_Same.l2 kq ag ak aa ac af a1_0 l1_1 l1_2 l1_3 = some r) ∧ Aside0 (kq ≤ k3) ∧ Aside0 (w'.heap[aj]? = some (.cells #[.int .i64 ak, (.slice ap aa.length aq), (.slice ar ac.length au), (.slice av af.length aw)] 26 (0, 0))) ∧ Aside0 (w'.heap[an]? = some (.cells #[.int .i64 a1_0, (.slice A1_1 l1_1.length c1_1), (.slice A1_2 l1_2.length c1_2), (.slice A1_3 l1_3.length c1_3)] 26 (0, 0))) ∧ Aside0 (Below w.heap.size w w'))
          case atStart => exact ⟨(0), (by first | rfl | (simp; done) | (simp [*]; done)), H', ⟨Nat.le_refl _⟩, ⟨zB ad.out⟩, ⟨zB am.out⟩, ⟨by repeat (first | (with_reducible first | exact HB.out | apply pA | apply pN | apply pD | refine pS ?_ al.out | refine pS ?_ ao.out) | exact HB.out)⟩⟩
          case round =>
           clear H'
           try clear c1
           try clear c2
           try clear p2
           try clear c3
           try clear c4
           try clear p4
           try clear q4
           try clear hx4
           try clear c6
           try clear ax
           try clear bK
           try clear p6
           try clear c7
           try clear bL
           try clear bM
           try clear bN
           try clear c8
           try clear bO
           try clear bP
           try clear bQ
           try clear c9
           try clear c12
           try clear c15
           try clear c18
           try clear c21
           try clear c22
           try clear cy
           try clear c23
           try clear cI
           try clear c24
           try clear cJ
           try clear c25
           try clear cz
           try clear c26
           try clear c29
           try clear c32
           try clear c34
           try clear cL
           try clear c35
           try clear dD
           try clear c36
           try clear dE
           try clear c37
           try clear cM
           try clear c38
           try clear c41
           try clear c44
           try clear ay
           try clear az
           try clear aA
           try clear aB
           try clear aG
           try clear aH
           try clear aI
           try clear aJ
           try clear aO
           try clear aP
           try clear aQ
           try clear aR
           try clear aW
           try clear aX
           try clear aY
           try clear aZ
           try clear bc
           try clear bd
           try clear be
           try clear bf
           try clear bk
           try clear bl
           try clear bm
           try clear bn
           try clear bs
           try clear bt
           try clear bu
           try clear bv
           try clear bB
           try clear bC
           try clear bD
           try clear bE
           try clear bT
           try clear bU
           try clear bV
           try clear bW
           try clear b1
           try clear b2
           try clear b3
           try clear b4
           try clear b9
           try clear ca
           try clear cb
           try clear cc
           try clear ch
           try clear ci
           try clear cj
           try clear ck
           try clear cp
           try clear cq
           try clear cr
           try clear ct
           try clear cN
           try clear cO
           try clear cP
           try clear cQ
           try clear cV
           try clear cW
           try clear cX
           try clear cY
           try clear db
           try clear dc
           try clear dd
           try clear de
           try clear dj
           try clear dk
           try clear dl
           try clear dm
           try clear ds
           try clear dt
           try clear du
           try clear dv
           try clear aC
           try clear aD
           try clear aE
           try clear aF
           try clear aK
           try clear aL
           try clear aM
           try clear aN
           try clear aS
           try clear aT
           try clear aU
           try clear aV
           try clear a8
           try clear a9
           try clear ba
           try clear bb
           try clear bg
           try clear bh
           try clear bi
           try clear bj
           try clear bo
           try clear bp
           try clear bq
           try clear br
           try clear bw
           try clear bx
           try clear bz
           try clear bA
           try clear bF
           try clear bG
           try clear bH
           try clear bI
           try clear bX
           try clear bY
           try clear bZ
           try clear b0
           try clear b5
           try clear b6
           try clear b7
           try clear b8
           try clear cd
           try clear ce
           try clear cf
           try clear cg
           try clear cl
           try clear cm
           try clear cn
           try clear co
           try clear cu
           try clear cv
           try clear cw
           try clear cx
           try clear cR
           try clear cS
           try clear cT
           try clear cU
           try clear cZ
           try clear c0
           try clear c5
           try clear da
           try clear df
           try clear dg
           try clear dh
           try clear di
           try clear dn
           try clear dp
           try clear dq
           try clear dr
           try clear dw
           try clear dx
           try clear dy
           try clear dz
           try clear hx469_0
           try clear hx469_1
           try clear hx469_2
           try clear hx469_3
           try clear hx469_4
           try clear hx469_5
           try clear hx470_0
           try clear hx470_1
           try clear hx470_2
           try clear hx470_3
           try clear hx470_4
           try clear hx470_5
           try clear hx471_0
           try clear hx471_1
           try clear hx471_2
           try clear hx471_3
           try clear hx471_4
           try clear hx472_0
           try clear hx472_1
           try clear hx472_2
           try clear hx472_3
           try clear hx472_4
           try clear p2
           try clear p4
           try clear p469
           try clear p470
           try clear p471
           try clear p472
           try clear p6
           try clear q4
           try clear q469
           try clear q470
           try clear q471
           try clear q472
           obtain ⟨ag, rfl, HA, dL, ad, am, HB⟩ := hrel
           cases gk with
           | zero => exact absurd HA.out (by simp [portreeveref04_Same.l2])
           | succ k4 =>
            have H := HA.out
            clear HA
            simp only [portreeveref04_Same.l2] at H
            by_cases c46 : ag < (af.length : Int)
            ·rw [if_pos c46] at H
             have dH : decide (ag < (af.length : Int)) = true := decide_eq_true c46
             clear c46
             by_cases c47 : 0 ≤ ag
             ·rw [if_pos c47] at H
              have eI : decide (0 ≤ ag) = true := decide_eq_true c47
              clear c47
              by_cases c48 : ag < (l1_3.length : Int)
              ·rw [if_pos c48] at H
               have eJ : decide (ag < (l1_3.length : Int)) = true := decide_eq_true c48
               clear c48
               by_cases c49 : (!((((rd_T64 af ag).f0).toList) == (((rd_T64 l1_3 ag).f0).toList)) || (!(((rd_T64 af ag).f1) == ((rd_T64 l1_3 ag).f1)) || (!(((rd_T64 af ag).f2) == ((rd_T64 l1_3 ag).f2))))) = true
               ·rw [if_pos c49] at H
                have dI : (!((((rd_T64 af ag).f0).toList) == (((rd_T64 l1_3 ag).f0).toList)) || (!(((rd_T64 af ag).f1) == ((rd_T64 l1_3 ag).f1)) || (!(((rd_T64 af ag).f2) == ((rd_T64 l1_3 ag).f2))))) = true := c49
                clear c49
                obtain rfl := Option.some.inj H
                have eK := ah.out
                have eL := ai.out
                obtain ⟨dM, dN, dO, dP, dQ, dR, dS, dT⟩ := bk4 ad.out
                have p473 : 0 ≤ (ag : Int) := of_decide_eq_true (by first | (with_reducible assumption) | assumption)
                have q473 : ag < (af.length : Int) := of_decide_eq_true (by first | (with_reducible assumption) | assumption)
                obtain ⟨dJ, e473, hx473_0, hx473_1, hx473_2⟩ := at_T64 cC.out ag p473 q473
                cases e473
                replace hx473_0 := (HB.out.cell (World.block_lt_of_cell? w _ hx473_0)).trans hx473_0
                replace hx473_1 := (HB.out.cell (World.block_lt_of_cell? w _ hx473_1)).trans hx473_1
                replace hx473_2 := (HB.out.cell (World.block_lt_of_cell? w _ hx473_2)).trans hx473_2
                replace p473 := eq_true p473
                replace q473 := eq_true q473
                obtain ⟨dU, dV, dW, dX, dY, dZ, d0, d1⟩ := bk4 am.out
                have p474 : 0 ≤ (ag : Int) := of_decide_eq_true (by first | (with_reducible assumption) | assumption)
                have q474 : ag < (l1_3.length : Int) := of_decide_eq_true (by first | (with_reducible assumption) | assumption)
                obtain ⟨dK, e474, hx474_0, hx474_1, hx474_2⟩ := at_T64 cF.out ag p474 q474
                cases e474
                replace hx474_0 := (HB.out.cell (World.block_lt_of_cell? w _ hx474_0)).trans hx474_0
                replace hx474_1 := (HB.out.cell (World.block_lt_of_cell? w _ hx474_1)).trans hx474_1
                replace hx474_2 := (HB.out.cell (World.block_lt_of_cell? w _ hx474_2)).trans hx474_2
                replace p474 := eq_true p474
                replace q474 := eq_true q474
                go_wp2
                repeat (go_quiet (fail); try go_wp2)
                go_ret
                exact ⟨by first | rfl | (simp [errW_none, errW_some] <;> rfl) | (simp [*, errW_none, errW_some] <;> rfl), by repeat (first | (with_reducible first | exact HB.out | apply pA | apply pN | apply pD | refine pS ?_ al.out | refine pS ?_ ao.out) | exact HB.out)⟩
               ·rw [if_neg c49] at H
                have dI : (!((((rd_T64 af ag).f0).toList) == (((rd_T64 l1_3 ag).f0).toList)) || (!(((rd_T64 af ag).f1) == ((rd_T64 l1_3 ag).f1)) || (!(((rd_T64 af ag).f2) == ((rd_T64 l1_3 ag).f2))))) = false := by simpa using c49
                clear c49
                have H' := Aside0.mk H
                clear H
                have eM := ah.out
                have eN := ai.out
                obtain ⟨d2, d3, d4, d5, d6, d7, d8, d9⟩ := bk4 ad.out
                have p473 : 0 ≤ (ag : Int) := of_decide_eq_true (by first | (with_reducible assumption) | assumption)
                have q473 : ag < (af.length : Int) := of_decide_eq_true (by first | (with_reducible assumption) | assumption)
                obtain ⟨dJ, e473, hx473_0, hx473_1, hx473_2⟩ := at_T64 cC.out ag p473 q473
                cases e473
                replace hx473_0 := (HB.out.cell (World.block_lt_of_cell? w _ hx473_0)).trans hx473_0
                replace hx473_1 := (HB.out.cell (World.block_lt_of_cell? w _ hx473_1)).trans hx473_1
                replace hx473_2 := (HB.out.cell (World.block_lt_of_cell? w _ hx473_2)).trans hx473_2
                replace p473 := eq_true p473
                replace q473 := eq_true q473
                obtain ⟨ea, eb, ec, ed, ee, ef, eg, eh⟩ := bk4 am.out
                have p474 : 0 ≤ (ag : Int) := of_decide_eq_true (by first | (with_reducible assumption) | assumption)
                have q474 : ag < (l1_3.length : Int) := of_decide_eq_true (by first | (with_reducible assumption) | assumption)
                obtain ⟨dK, e474, hx474_0, hx474_1, hx474_2⟩ := at_T64 cF.out ag p474 q474
                cases e474
                replace hx474_0 := (HB.out.cell (World.block_lt_of_cell? w _ hx474_0)).trans hx474_0
                replace hx474_1 := (HB.out.cell (World.block_lt_of_cell? w _ hx474_1)).trans hx474_1
                replace hx474_2 := (HB.out.cell (World.block_lt_of_cell? w _ hx474_2)).trans hx474_2
                replace p474 := eq_true p474
                replace q474 := eq_true q474
                go_wp2
                repeat (go_quiet (fail); try go_wp2)
                go_roundg k4
                case measure => have := bR.out; have := bS.out; have := cK.out; have := dL.out; omega
                case rel => exact ⟨(wrap64 (ag + 1)), (by first | rfl | (simp; done) | (simp [*]; done)), H', ⟨by have := bR.out; have := bS.out; have := cK.out; have := dL.out; omega⟩, ⟨zB ad.out⟩, ⟨zB am.out⟩, ⟨by repeat (first | (with_reducible first | exact HB.out | apply pA | apply pN | apply pD | refine pS ?_ al.out | refine pS ?_ ao.out) | exact HB.out)⟩⟩
              ·rw [if_neg c48] at H
               exact absurd H (by simp)
             ·rw [if_neg c47] at H
              exact absurd H (by simp)
            ·rw [if_neg c46] at H
             have dH : decide (ag < (af.length : Int)) = false := decide_eq_false c46
             clear c46
             obtain rfl := Option.some.inj H
             have eO := ah.out
             have eP := ai.out
             obtain ⟨ei, ej, ek, el, em, en, eo, ep⟩ := bk4 ad.out
             go_wp2
             repeat (go_quiet (fail); try go_wp2)
             go_ret
             exact ⟨by first | rfl | (simp [errW_none, errW_some] <;> rfl) | (simp [*, errW_none, errW_some] <;> rfl), by repeat (first | (with_reducible first | exact HB.out | apply pA | apply pN | apply pD | refine pS ?_ al.out | refine pS ?_ ao.out) | exact HB.out)⟩

end Go.Proofs.Ytocjadhpaecpaaa.Q

-- written by this session's own program (wip/tools/myprint.py), over the kit's print
import Derived.Test.YtlimlbhhbjaljaaQx0
import Derived.Test.YtlimlbhhbjaljaaQx12
namespace Go.Proofs.Ytlimlbhhbjaljaa.Q
open Go.RowKit Go.Proofs.YtlimlbhhbjaljaaW.PrintWords Go.Proofs.YtlimlbhhbjaljaaW.PrintLast Go.Proofs.YtlimlbhhbjaljaaW.PrintMore
open Go.Proofs.YtlimlbhhbjaljaaV
attribute [local go_sem] max2_int min2_int max_two min_two max_three min_three max_four min_four   -- for this text's walks alone
set_option linter.unusedVariables false
set_option linter.unusedSimpArgs false

/-! ### portreeveref04_open: function 28 -/
mutual
def portreeveref04_open.l0 : Nat → Int → Int → List (S51) → List (S56) → List (S68) → Option (Bool)
 | 0, _, _, _, _, _ => none
 | k + 1, x3, x239000, x239001, x239002, x239003 => if x3 < (x239001.length : Int) then (if 0 ≤ x3 then ((portreeveref04_name.f ((rd_T51 x239001 x3).f3)).bind fun t241 => ((portreeveref04_pool.f ((rd_T51 x239001 x3).f2)).bind fun t242 => (if ((rd_T51 x239001 x3).f0) < 0 then (portreeveref04_open.j1 k x3 true x239000 x239001 x239002 x239003 ((rd_T51 x239001 x3).f0) ((rd_T51 x239001 x3).f1) ((rd_T51 x239001 x3).f2) ((rd_T51 x239001 x3).f3) ((rd_T51 x239001 x3).f4) ((rd_T51 x239001 x3).f5)) else (if ((rd_T51 x239001 x3).f0) ≥ x239000 then (portreeveref04_open.j1 k x3 true x239000 x239001 x239002 x239003 ((rd_T51 x239001 x3).f0) ((rd_T51 x239001 x3).f1) ((rd_T51 x239001 x3).f2) ((rd_T51 x239001 x3).f3) ((rd_T51 x239001 x3).f4) ((rd_T51 x239001 x3).f5)) else (if x3 > 0 then (if 0 ≤ (wrap64 (x3 - 1)) then (if (wrap64 (x3 - 1)) < (x239001.length : Int) then (if ((rd_T51 x239001 (wrap64 (x3 - 1))).f0) ≥ ((rd_T51 x239001 x3).f0) then (portreeveref04_open.j1 k x3 true x239000 x239001 x239002 x239003 ((rd_T51 x239001 x3).f0) ((rd_T51 x239001 x3).f1) ((rd_T51 x239001 x3).f2) ((rd_T51 x239001 x3).f3) ((rd_T51 x239001 x3).f4) ((rd_T51 x239001 x3).f5)) else (if ((rd_T51 x239001 x3).f1) < 0 then (portreeveref04_open.j1 k x3 true x239000 x239001 x239002 x239003 ((rd_T51 x239001 x3).f0) ((rd_T51 x239001 x3).f1) ((rd_T51 x239001 x3).f2) ((rd_T51 x239001 x3).f3) ((rd_T51 x239001 x3).f4) ((rd_T51 x239001 x3).f5)) else (if ((rd_T51 x239001 x3).f1) > 7 then (portreeveref04_open.j1 k x3 true x239000 x239001 x239002 x239003 ((rd_T51 x239001 x3).f0) ((rd_T51 x239001 x3).f1) ((rd_T51 x239001 x3).f2) ((rd_T51 x239001 x3).f3) ((rd_T51 x239001 x3).f4) ((rd_T51 x239001 x3).f5)) else (if t241 = true then (portreeveref04_open.j1 k x3 (!t242) x239000 x239001 x239002 x239003 ((rd_T51 x239001 x3).f0) ((rd_T51 x239001 x3).f1) ((rd_T51 x239001 x3).f2) ((rd_T51 x239001 x3).f3) ((rd_T51 x239001 x3).f4) ((rd_T51 x239001 x3).f5)) else (portreeveref04_open.j1 k x3 true x239000 x239001 x239002 x239003 ((rd_T51 x239001 x3).f0) ((rd_T51 x239001 x3).f1) ((rd_T51 x239001 x3).f2) ((rd_T51 x239001 x3).f3) ((rd_T51 x239001 x3).f4) ((rd_T51 x239001 x3).f5)))))) else (none)) else (none)) else (if ((rd_T51 x239001 x3).f1) < 0 then (portreeveref04_open.j1 k x3 true x239000 x239001 x239002 x239003 ((rd_T51 x239001 x3).f0) ((rd_T51 x239001 x3).f1) ((rd_T51 x239001 x3).f2) ((rd_T51 x239001 x3).f3) ((rd_T51 x239001 x3).f4) ((rd_T51 x239001 x3).f5)) else (if ((rd_T51 x239001 x3).f1) > 7 then (portreeveref04_open.j1 k x3 true x239000 x239001 x239002 x239003 ((rd_T51 x239001 x3).f0) ((rd_T51 x239001 x3).f1) ((rd_T51 x239001 x3).f2) ((rd_T51 x239001 x3).f3) ((rd_T51 x239001 x3).f4) ((rd_T51 x239001 x3).f5)) else (if t241 = true then (portreeveref04_open.j1 k x3 (!t242) x239000 x239001 x239002 x239003 ((rd_T51 x239001 x3).f0) ((rd_T51 x239001 x3).f1) ((rd_T51 x239001 x3).f2) ((rd_T51 x239001 x3).f3) ((rd_T51 x239001 x3).f4) ((rd_T51 x239001 x3).f5)) else (portreeveref04_open.j1 k x3 true x239000 x239001 x239002 x239003 ((rd_T51 x239001 x3).f0) ((rd_T51 x239001 x3).f1) ((rd_T51 x239001 x3).f2) ((rd_T51 x239001 x3).f3) ((rd_T51 x239001 x3).f4) ((rd_T51 x239001 x3).f5)))))))))) else (none)) else (some true)
def portreeveref04_open.j1 : Nat → Int → Bool → Int → List (S51) → List (S56) → List (S68) → Int → Int → Int → ByteArray → Int → Int → Option (Bool)
 | 0, _, _, _, _, _, _, _, _, _, _, _, _ => none
 | k + 1, x3, x69, x239000, x239001, x239002, x239003, x241000, x241001, x241002, x241003, x241004, x241005 => if x69 = true then (some false) else (portreeveref04_open.l1 k x3 0 x239000 x239001 x239002 x239003 x241000 x241001 x241002 x241003 x241004 x241005)
def portreeveref04_open.l1 : Nat → Int → Int → Int → List (S51) → List (S56) → List (S68) → Int → Int → Int → ByteArray → Int → Int → Option (Bool)
 | 0, _, _, _, _, _, _, _, _, _, _, _, _ => none
 | k + 1, x3, x7, x239000, x239001, x239002, x239003, x241000, x241001, x241002, x241003, x241004, x241005 => if x7 < x3 then (if 0 ≤ x7 then (if x7 < (x239001.length : Int) then (if ((rd_T51 x239001 x7).f1) = x241001 then (portreeveref04_open.j3 k x3 x7 true x239000 x239001 x239002 x239003 x241000 x241001 x241002 x241003 x241004 x241005) else (portreeveref04_open.j3 k x3 x7 (((rd_T51 x239001 x7).f2) == x241002) x239000 x239001 x239002 x239003 x241000 x241001 x241002 x241003 x241004 x241005)) else (none)) else (none)) else (portreeveref04_open.l0 k (wrap64 (x3 + 1)) x239000 x239001 x239002 x239003)
def portreeveref04_open.j3 : Nat → Int → Int → Bool → Int → List (S51) → List (S56) → List (S68) → Int → Int → Int → ByteArray → Int → Int → Option (Bool)
 | 0, _, _, _, _, _, _, _, _, _, _, _, _, _ => none
 | k + 1, x3, x7, x94, x239000, x239001, x239002, x239003, x241000, x241001, x241002, x241003, x241004, x241005 => if x94 = true then (some false) else (portreeveref04_open.l1 k x3 (wrap64 (x7 + 1)) x239000 x239001 x239002 x239003 x241000 x241001 x241002 x241003 x241004 x241005)
end
def portreeveref04_open.f (k : Nat) (a0_0 : Int) (l0_1 : List (S51)) (l0_2 : List (S56)) (l0_3 : List (S68)) : Option (Bool) := portreeveref04_open.l0 k 0 a0_0 l0_1 l0_2 l0_3
theorem portreeveref04_open.mono_l : ∀ k, (∀ y0 y1 y2 y3 y4, LeO (portreeveref04_open.l0 k y0 y1 y2 y3 y4) (portreeveref04_open.l0 (k + 1) y0 y1 y2 y3 y4)) ∧ (∀ y0 y1 y2 y3 y4 y5 y6 y7 y8 y9 y10 y11, LeO (portreeveref04_open.j1 k y0 y1 y2 y3 y4 y5 y6 y7 y8 y9 y10 y11) (portreeveref04_open.j1 (k + 1) y0 y1 y2 y3 y4 y5 y6 y7 y8 y9 y10 y11)) ∧ (∀ y0 y1 y2 y3 y4 y5 y6 y7 y8 y9 y10 y11, LeO (portreeveref04_open.l1 k y0 y1 y2 y3 y4 y5 y6 y7 y8 y9 y10 y11) (portreeveref04_open.l1 (k + 1) y0 y1 y2 y3 y4 y5 y6 y7 y8 y9 y10 y11)) ∧ (∀ y0 y1 y2 y3 y4 y5 y6 y7 y8 y9 y10 y11 y12, LeO (portreeveref04_open.j3 k y0 y1 y2 y3 y4 y5 y6 y7 y8 y9 y10 y11 y12) (portreeveref04_open.j3 (k + 1) y0 y1 y2 y3 y4 y5 y6 y7 y8 y9 y10 y11 y12))
 | 0 => ⟨fun _ _ _ _ _ r h => by simp [portreeveref04_open.l0] at h, fun _ _ _ _ _ _ _ _ _ _ _ _ r h => by simp [portreeveref04_open.j1] at h, fun _ _ _ _ _ _ _ _ _ _ _ _ r h => by simp [portreeveref04_open.l1] at h, fun _ _ _ _ _ _ _ _ _ _ _ _ _ r h => by simp [portreeveref04_open.j3] at h⟩
 | k + 1 => by
  obtain ⟨ih0, ih1, ih2, ih3⟩ := portreeveref04_open.mono_l k
  refine ⟨?_, ?_, ?_, ?_⟩
  ·intro y0 y1 y2 y3 y4
   unfold portreeveref04_open.l0
   repeat' first
   | (with_reducible exact ih0 _ _ _ _ _)
   | (with_reducible exact ih1 _ _ _ _ _ _ _ _ _ _ _ _)
   | (with_reducible exact ih2 _ _ _ _ _ _ _ _ _ _ _ _)
   | (with_reducible exact ih3 _ _ _ _ _ _ _ _ _ _ _ _ _)
   | (with_reducible exact LeO.refl _)
   | (with_reducible exact LeO.none _)
   | (with_reducible refine LeO.ite ?_ ?_)
   | (with_reducible refine LeO.bind ?_ (fun _ => ?_))
   | exact ih0 _ _ _ _ _
   | exact ih1 _ _ _ _ _ _ _ _ _ _ _ _
   | exact ih2 _ _ _ _ _ _ _ _ _ _ _ _
   | exact ih3 _ _ _ _ _ _ _ _ _ _ _ _ _
   | exact LeO.none _
   | refine LeO.ite ?_ ?_
   | refine LeO.bind ?_ (fun _ => ?_)
  ·intro y0 y1 y2 y3 y4 y5 y6 y7 y8 y9 y10 y11
   unfold portreeveref04_open.j1
   repeat' first
   | (with_reducible exact ih0 _ _ _ _ _)
   | (with_reducible exact ih1 _ _ _ _ _ _ _ _ _ _ _ _)
   | (with_reducible exact ih2 _ _ _ _ _ _ _ _ _ _ _ _)
   | (with_reducible exact ih3 _ _ _ _ _ _ _ _ _ _ _ _ _)
   | (with_reducible exact LeO.refl _)
   | (with_reducible exact LeO.none _)
   | (with_reducible refine LeO.ite ?_ ?_)
   | (with_reducible refine LeO.bind ?_ (fun _ => ?_))
   | exact ih0 _ _ _ _ _
   | exact ih1 _ _ _ _ _ _ _ _ _ _ _ _
   | exact ih2 _ _ _ _ _ _ _ _ _ _ _ _
   | exact ih3 _ _ _ _ _ _ _ _ _ _ _ _ _
   | exact LeO.none _
   | refine LeO.ite ?_ ?_
   | refine LeO.bind ?_ (fun _ => ?_)
  ·intro y0 y1 y2 y3 y4 y5 y6 y7 y8 y9 y10 y11
   unfold portreeveref04_open.l1
   repeat' first
   | (with_reducible exact ih0 _ _ _ _ _)
   | (with_reducible exact ih1 _ _ _ _ _ _ _ _ _ _ _ _)
   | (with_reducible exact ih2 _ _ _ _ _ _ _ _ _ _ _ _)
   | (with_reducible exact ih3 _ _ _ _ _ _ _ _ _ _ _ _ _)
   | (with_reducible exact LeO.refl _)
   | (with_reducible exact LeO.none _)
   | (with_reducible refine LeO.ite ?_ ?_)
   | (with_reducible refine LeO.bind ?_ (fun _ => ?_))
   | exact ih0 _ _ _ _ _
   | exact ih1 _ _ _ _ _ _ _ _ _ _ _ _
   | exact ih2 _ _ _ _ _ _ _ _ _ _ _ _
   | exact ih3 _ _ _ _ _ _ _ _ _ _ _ _ _
   | exact LeO.none _
   | refine LeO.ite ?_ ?_
   | refine LeO.bind ?_ (fun _ => ?_)
  ·intro y0 y1 y2 y3 y4 y5 y6 y7 y8 y9 y10 y11 y12
   unfold portreeveref04_open.j3
   repeat' first
   | (with_reducible exact ih0 _ _ _ _ _)
   | (with_reducible exact ih1 _ _ _ _ _ _ _ _ _ _ _ _)
   | (with_reducible exact ih2 _ _ _ _ _ _ _ _ _ _ _ _)
   | (with_reducible exact ih3 _ _ _ _ _ _ _ _ _ _ _ _ _)
   | (with_reducible exact LeO.refl _)
   | (with_reducible exact LeO.none _)
   | (with_reducible refine LeO.ite ?_ ?_)
   | (with_reducible refine LeO.bind ?_ (fun _ => ?_))
   | exact ih0 _ _ _ _ _
   | exact ih1 _ _ _ _ _ _ _ _ _ _ _ _
   | exact ih2 _ _ _ _ _ _ _ _ _ _ _ _
   | exact ih3 _ _ _ _ _ _ _ _ _ _ _ _ _
   | exact LeO.none _
   | refine LeO.ite ?_ ?_
   | refine LeO.bind ?_ (fun _ => ?_)
theorem portreeveref04_open.mono : ∀ a0 a1 a2 a3 k, LeO (portreeveref04_open.f k a0 a1 a2 a3) (portreeveref04_open.f (k + 1) a0 a1 a2 a3) := by
 intro a0 a1 a2 a3 k
 obtain ⟨ih0, ih1, ih2, ih3⟩ := portreeveref04_open.mono_l k
 unfold portreeveref04_open.f
 repeat' first
   | (with_reducible exact ih0 _ _ _ _ _)
   | (with_reducible exact ih1 _ _ _ _ _ _ _ _ _ _ _ _)
   | (with_reducible exact ih2 _ _ _ _ _ _ _ _ _ _ _ _)
   | (with_reducible exact ih3 _ _ _ _ _ _ _ _ _ _ _ _ _)
   | (with_reducible exact LeO.refl _)
   | (with_reducible exact LeO.none _)
   | (with_reducible refine LeO.ite ?_ ?_)
   | (with_reducible refine LeO.bind ?_ (fun _ => ?_))
   | exact ih0 _ _ _ _ _
   | exact ih1 _ _ _ _ _ _ _ _ _ _ _ _
   | exact ih2 _ _ _ _ _ _ _ _ _ _ _ _
   | exact ih3 _ _ _ _ _ _ _ _ _ _ _ _ _
   | exact LeO.none _
   | refine LeO.ite ?_ ?_
   | refine LeO.bind ?_ (fun _ => ?_)
set_option maxHeartbeats 8000000 in
set_option maxRecDepth 100000 in
theorem portreeveref04_open.calls (k : Nat) (ad : Int) (aP : Option Addr) (ap : Nat) (aa : List (S51)) (aq : Option Addr) (ar : Nat) (ae : List (S56)) (au : Option Addr) (av : Nat) (af : List (S68)) (r : Bool) (w : World) (hr0_1 : Kd.C k51 w aP aa.length aa) (hc0_1 : aa.length ≤ ap) (hr0_2 : Kd.C k56 w aq ae.length ae) (hc0_2 : ae.length ≤ ar) (hr0_3 : Kd.C k68 w au af.length af) (hc0_3 : af.length ≤ av) (h : portreeveref04_open.f k ad aa ae af = some r) :
  Calls Try.prog 28 #[.agg #[.int .i64 ad, .slice aP aa.length ap, .slice aq ae.length ar, .slice au af.length av]] w fun e w' => e = .returned (.bool r) ∧ Below w.heap.size w w' := by
 have hu46 := Try.underlying46
 have hu51 := Try.underlying51
 have ay := Aside0.mk hr0_1
 have HC0_1 := Aside0.mk hc0_1
 clear hr0_1 hc0_1
 have fU := Aside0.mk hr0_2
 have HC0_2 := Aside0.mk hc0_2
 clear hr0_2 hc0_2
 have fW := Aside0.mk hr0_3
 have HC0_3 := Aside0.mk hc0_3
 clear hr0_3 hc0_3
 have HB := Aside0.mk (Below.refl w.heap.size w)
 have H : (portreeveref04_open.l0 k 0 ad aa ae af) = some r := h
 clear h
 have H' := Aside0.mk H
 clear H
 go_enter Try.func28, Try.ntmps28
 go_wp2_with (first | ((with_reducible refine gate_dst (N := 1) rfl ?_); refine box_event ?hg (N := 1) ?hd (cs := #[.int .i64 ad, .slice aP aa.length ap, .slice aq ae.length ar, .slice au af.length av]) (t := 46) ?hr ?_; (case hd => rfl); (case hg => rfl); (case hr => first | (go_simp; done) | (go_simp; rfl)); intro ak hg w2 hbox hb; have n0_ := Aside0.mk (below_step (zH HB.out) hb); have n1_ := Aside0.mk (hbox); have n2_ := Aside0.mk ((by rw [hg]; exact (below_size (zH HB.out)) : w.heap.size ≤ ak)); have n3_ := Aside0.mk ((by rw [hg]; exact (below_size (zH HB.out)) : w.heap.size ≤ ak)); clear HB; have HB := n0_; have ac := n1_; have eR := n2_; have aj := n3_; clear n0_ n1_ n2_ n3_; clear hb hbox hg))
 repeat (go_quiet (first | ((with_reducible refine gate_dst (N := 1) rfl ?_); refine box_event ?hg (N := 1) ?hd (cs := #[.int .i64 ad, .slice aP aa.length ap, .slice aq ae.length ar, .slice au af.length av]) (t := 46) ?hr ?_; (case hd => rfl); (case hg => rfl); (case hr => first | (go_simp; done) | (go_simp; rfl)); intro ak hg w2 hbox hb; have n0_ := Aside0.mk (below_step (zH HB.out) hb); have n1_ := Aside0.mk (hbox); have n2_ := Aside0.mk ((by rw [hg]; exact (below_size (zH HB.out)) : w.heap.size ≤ ak)); have n3_ := Aside0.mk ((by rw [hg]; exact (below_size (zH HB.out)) : w.heap.size ≤ ak)); clear HB; have HB := n0_; have ac := n1_; have eR := n2_; have aj := n3_; clear n0_ n1_ n2_ n3_; clear hb hbox hg)); try go_wp2_with (first | ((with_reducible refine gate_dst (N := 1) rfl ?_); refine box_event ?hg (N := 1) ?hd (cs := #[.int .i64 ad, .slice aP aa.length ap, .slice aq ae.length ar, .slice au af.length av]) (t := 46) ?hr ?_; (case hd => rfl); (case hg => rfl); (case hr => first | (go_simp; done) | (go_simp; rfl)); intro ak hg w2 hbox hb; have n0_ := Aside0.mk (below_step (zH HB.out) hb); have n1_ := Aside0.mk (hbox); have n2_ := Aside0.mk ((by rw [hg]; exact (below_size (zH HB.out)) : w.heap.size ≤ ak)); have n3_ := Aside0.mk ((by rw [hg]; exact (below_size (zH HB.out)) : w.heap.size ≤ ak)); clear HB; have HB := n0_; have ac := n1_; have eR := n2_; have aj := n3_; clear n0_ n1_ n2_ n3_; clear hb hbox hg)))
 go_loopg [3] k (fun kq v3 w' => ∃ (ab : Int), v3 = .int .i64 ab ∧ Aside0 (portreeveref04_open.l0 kq ab ad aa ae af = some r) ∧ Aside0 (kq ≤ k) ∧ Aside0 (w'.heap[ak]? = some (.cells #[.int .i64 ad, (.slice aP aa.length ap), (.slice aq ae.length ar), (.slice au af.length av)] 46 (0, 0))) ∧ Aside0 (Below w.heap.size w w'))
 case atStart => exact ⟨(0), (by first | rfl | (simp; done) | (simp [*]; done)), H', ⟨Nat.le_refl _⟩, ⟨zB ac.out⟩, ⟨by repeat (first | (with_reducible first | exact HB.out | apply pA | apply pN | apply pD | refine pS ?_ aj.out) | exact HB.out)⟩⟩
 case round =>
  clear H'
  try clear c2
  try clear p2
  obtain ⟨ab, rfl, HA, ax, ac, HB⟩ := hrel
  cases gk with
  | zero => exact absurd HA.out (by simp [portreeveref04_open.l0])
  | succ k1 =>
   have H := HA.out
   clear HA
   simp only [portreeveref04_open.l0] at H
   by_cases c3 : ab < (aa.length : Int)
   ·rw [if_pos c3] at H
    have eL : decide (ab < (aa.length : Int)) = true := decide_eq_true c3
    clear c3
    by_cases c4 : 0 ≤ ab
    ·rw [if_pos c4] at H
     have eQ : decide (0 ≤ ab) = true := decide_eq_true c4
     clear c4
     replace H := Option.bind_eq_some_iff.mp H
     obtain ⟨aB, fJ, H⟩ := H
     replace H : ((portreeveref04_pool.f ((rd_T51 aa ab).f2)).bind fun aw => (if ((rd_T51 aa ab).f0) < 0 then (portreeveref04_open.j1 k1 ab true ad aa ae af ((rd_T51 aa ab).f0) ((rd_T51 aa ab).f1) ((rd_T51 aa ab).f2) ((rd_T51 aa ab).f3) ((rd_T51 aa ab).f4) ((rd_T51 aa ab).f5)) else (if ((rd_T51 aa ab).f0) ≥ ad then (portreeveref04_open.j1 k1 ab true ad aa ae af ((rd_T51 aa ab).f0) ((rd_T51 aa ab).f1) ((rd_T51 aa ab).f2) ((rd_T51 aa ab).f3) ((rd_T51 aa ab).f4) ((rd_T51 aa ab).f5)) else (if ab > 0 then (if 0 ≤ (wrap64 (ab - 1)) then (if (wrap64 (ab - 1)) < (aa.length : Int) then (if ((rd_T51 aa (wrap64 (ab - 1))).f0) ≥ ((rd_T51 aa ab).f0) then (portreeveref04_open.j1 k1 ab true ad aa ae af ((rd_T51 aa ab).f0) ((rd_T51 aa ab).f1) ((rd_T51 aa ab).f2) ((rd_T51 aa ab).f3) ((rd_T51 aa ab).f4) ((rd_T51 aa ab).f5)) else (if ((rd_T51 aa ab).f1) < 0 then (portreeveref04_open.j1 k1 ab true ad aa ae af ((rd_T51 aa ab).f0) ((rd_T51 aa ab).f1) ((rd_T51 aa ab).f2) ((rd_T51 aa ab).f3) ((rd_T51 aa ab).f4) ((rd_T51 aa ab).f5)) else (if ((rd_T51 aa ab).f1) > 7 then (portreeveref04_open.j1 k1 ab true ad aa ae af ((rd_T51 aa ab).f0) ((rd_T51 aa ab).f1) ((rd_T51 aa ab).f2) ((rd_T51 aa ab).f3) ((rd_T51 aa ab).f4) ((rd_T51 aa ab).f5)) else (if aB = true then (portreeveref04_open.j1 k1 ab (!aw) ad aa ae af ((rd_T51 aa ab).f0) ((rd_T51 aa ab).f1) ((rd_T51 aa ab).f2) ((rd_T51 aa ab).f3) ((rd_T51 aa ab).f4) ((rd_T51 aa ab).f5)) else (portreeveref04_open.j1 k1 ab true ad aa ae af ((rd_T51 aa ab).f0) ((rd_T51 aa ab).f1) ((rd_T51 aa ab).f2) ((rd_T51 aa ab).f3) ((rd_T51 aa ab).f4) ((rd_T51 aa ab).f5)))))) else (none)) else (none)) else (if ((rd_T51 aa ab).f1) < 0 then (portreeveref04_open.j1 k1 ab true ad aa ae af ((rd_T51 aa ab).f0) ((rd_T51 aa ab).f1) ((rd_T51 aa ab).f2) ((rd_T51 aa ab).f3) ((rd_T51 aa ab).f4) ((rd_T51 aa ab).f5)) else (if ((rd_T51 aa ab).f1) > 7 then (portreeveref04_open.j1 k1 ab true ad aa ae af ((rd_T51 aa ab).f0) ((rd_T51 aa ab).f1) ((rd_T51 aa ab).f2) ((rd_T51 aa ab).f3) ((rd_T51 aa ab).f4) ((rd_T51 aa ab).f5)) else (if aB = true then (portreeveref04_open.j1 k1 ab (!aw) ad aa ae af ((rd_T51 aa ab).f0) ((rd_T51 aa ab).f1) ((rd_T51 aa ab).f2) ((rd_T51 aa ab).f3) ((rd_T51 aa ab).f4) ((rd_T51 aa ab).f5)) else (portreeveref04_open.j1 k1 ab true ad aa ae af ((rd_T51 aa ab).f0) ((rd_T51 aa ab).f1) ((rd_T51 aa ab).f2) ((rd_T51 aa ab).f3) ((rd_T51 aa ab).f4) ((rd_T51 aa ab).f5))))))))) = some r := H
     have A5 := Aside0.mk fJ
     clear fJ
     replace H := Option.bind_eq_some_iff.mp H
     obtain ⟨aw, fK, H⟩ := H
     replace H : (if ((rd_T51 aa ab).f0) < 0 then (portreeveref04_open.j1 k1 ab true ad aa ae af ((rd_T51 aa ab).f0) ((rd_T51 aa ab).f1) ((rd_T51 aa ab).f2) ((rd_T51 aa ab).f3) ((rd_T51 aa ab).f4) ((rd_T51 aa ab).f5)) else (if ((rd_T51 aa ab).f0) ≥ ad then (portreeveref04_open.j1 k1 ab true ad aa ae af ((rd_T51 aa ab).f0) ((rd_T51 aa ab).f1) ((rd_T51 aa ab).f2) ((rd_T51 aa ab).f3) ((rd_T51 aa ab).f4) ((rd_T51 aa ab).f5)) else (if ab > 0 then (if 0 ≤ (wrap64 (ab - 1)) then (if (wrap64 (ab - 1)) < (aa.length : Int) then (if ((rd_T51 aa (wrap64 (ab - 1))).f0) ≥ ((rd_T51 aa ab).f0) then (portreeveref04_open.j1 k1 ab true ad aa ae af ((rd_T51 aa ab).f0) ((rd_T51 aa ab).f1) ((rd_T51 aa ab).f2) ((rd_T51 aa ab).f3) ((rd_T51 aa ab).f4) ((rd_T51 aa ab).f5)) else (if ((rd_T51 aa ab).f1) < 0 then (portreeveref04_open.j1 k1 ab true ad aa ae af ((rd_T51 aa ab).f0) ((rd_T51 aa ab).f1) ((rd_T51 aa ab).f2) ((rd_T51 aa ab).f3) ((rd_T51 aa ab).f4) ((rd_T51 aa ab).f5)) else (if ((rd_T51 aa ab).f1) > 7 then (portreeveref04_open.j1 k1 ab true ad aa ae af ((rd_T51 aa ab).f0) ((rd_T51 aa ab).f1) ((rd_T51 aa ab).f2) ((rd_T51 aa ab).f3) ((rd_T51 aa ab).f4) ((rd_T51 aa ab).f5)) else (if aB = true then (portreeveref04_open.j1 k1 ab (!aw) ad aa ae af ((rd_T51 aa ab).f0) ((rd_T51 aa ab).f1) ((rd_T51 aa ab).f2) ((rd_T51 aa ab).f3) ((rd_T51 aa ab).f4) ((rd_T51 aa ab).f5)) else (portreeveref04_open.j1 k1 ab true ad aa ae af ((rd_T51 aa ab).f0) ((rd_T51 aa ab).f1) ((rd_T51 aa ab).f2) ((rd_T51 aa ab).f3) ((rd_T51 aa ab).f4) ((rd_T51 aa ab).f5)))))) else (none)) else (none)) else (if ((rd_T51 aa ab).f1) < 0 then (portreeveref04_open.j1 k1 ab true ad aa ae af ((rd_T51 aa ab).f0) ((rd_T51 aa ab).f1) ((rd_T51 aa ab).f2) ((rd_T51 aa ab).f3) ((rd_T51 aa ab).f4) ((rd_T51 aa ab).f5)) else (if ((rd_T51 aa ab).f1) > 7 then (portreeveref04_open.j1 k1 ab true ad aa ae af ((rd_T51 aa ab).f0) ((rd_T51 aa ab).f1) ((rd_T51 aa ab).f2) ((rd_T51 aa ab).f3) ((rd_T51 aa ab).f4) ((rd_T51 aa ab).f5)) else (if aB = true then (portreeveref04_open.j1 k1 ab (!aw) ad aa ae af ((rd_T51 aa ab).f0) ((rd_T51 aa ab).f1) ((rd_T51 aa ab).f2) ((rd_T51 aa ab).f3) ((rd_T51 aa ab).f4) ((rd_T51 aa ab).f5)) else (portreeveref04_open.j1 k1 ab true ad aa ae af ((rd_T51 aa ab).f0) ((rd_T51 aa ab).f1) ((rd_T51 aa ab).f2) ((rd_T51 aa ab).f3) ((rd_T51 aa ab).f4) ((rd_T51 aa ab).f5)))))))) = some r := H
     have A6 := Aside0.mk fK
     clear fK
     have HC7 := Aside0.mk H
     clear H
     obtain ⟨eB, eC, eD, eE, eF, eG, eH, eI⟩ := bk4 ac.out
     have p239 : 0 ≤ (ab : Int) := of_decide_eq_true (by first | (with_reducible assumption) | assumption)
     have q239 : ab < (aa.length : Int) := of_decide_eq_true (by first | (with_reducible assumption) | assumption)
     obtain ⟨am, e239, hx239_0, hx239_1, hx239_2, hx239_3, hx239_4, hx239_5⟩ := at_T51 ay.out ab p239 q239
     cases e239
     replace hx239_0 := (HB.out.cell (World.block_lt_of_cell? w _ hx239_0)).trans hx239_0
     replace hx239_1 := (HB.out.cell (World.block_lt_of_cell? w _ hx239_1)).trans hx239_1
     replace hx239_2 := (HB.out.cell (World.block_lt_of_cell? w _ hx239_2)).trans hx239_2
     replace hx239_3 := (HB.out.cell (World.block_lt_of_cell? w _ hx239_3)).trans hx239_3
     replace hx239_4 := (HB.out.cell (World.block_lt_of_cell? w _ hx239_4)).trans hx239_4
     replace hx239_5 := (HB.out.cell (World.block_lt_of_cell? w _ hx239_5)).trans hx239_5
     replace p239 := eq_true p239
     replace q239 := eq_true q239
     go_upto_region 7 with (first | ((with_reducible refine gate_dst (N := 4) rfl ?_); refine box_event ?hg (N := 4) ?hd (cs := #[.int .i64 0, .int .i64 0, .int .u32 0, .string (⟨#[]⟩ : ByteArray), .int .u64 0, .int .u64 0]) (t := 51) ?hr ?_; (case hd => rfl); (case hg => rfl); (case hr => first | (go_simp; done) | (go_simp; rfl)); intro ao hg w9 hbox hb; have n0_ := Aside0.mk (blk_below (g := ak) (o := .cells #[.int .i64 ad, .slice (some am) aa.length ap, .slice aq ae.length ar, .slice au af.length av] 46 (0, 0)) (zB ac.out) hb); have n1_ := Aside0.mk (below_step (by repeat (first | (with_reducible first | exact HB.out | apply pA | apply pN | apply pD | refine pS ?_ aj.out) | exact HB.out)) hb); have n2_ := Aside0.mk (hbox); have n3_ := Aside0.mk ((by rw [hg]; exact (below_size (by repeat (first | (with_reducible first | exact HB.out | apply pA | apply pN | apply pD | refine pS ?_ aj.out) | exact HB.out))) : w.heap.size ≤ ao)); have n4_ := Aside0.mk ((by rw [hg]; exact (below_size (by repeat (first | (with_reducible first | exact HB.out | apply pA | apply pN | apply pD | refine pS ?_ aj.out) | exact HB.out))) : w.heap.size ≤ ao)); have n5_ := Aside0.mk ((by rw [hg]; exact Nat.ne_of_lt (blk_lt (g := ak) (o := .cells #[.int .i64 ad, .slice (some am) aa.length ap, .slice aq ae.length ar, .slice au af.length av] 46 (0, 0)) (zB ac.out)) : ak ≠ ao)); have n6_ := Aside0.mk ((by rw [hg]; exact Nat.ne_of_gt (blk_lt (g := ak) (o := .cells #[.int .i64 ad, .slice (some am) aa.length ap, .slice aq ae.length ar, .slice au af.length av] 46 (0, 0)) (zB ac.out)) : ao ≠ ak)); clear ac; clear HB; have ac := n0_; have HB := n1_; have ag := n2_; have eS := n3_; have an := n4_; have ah := n5_; have ai := n6_; clear n0_ n1_ n2_ n3_ n4_ n5_ n6_; clear hb hbox hg; have eT := ai.out; have eU := ah.out; obtain ⟨aC, aD, aE, aF, aG, aH, aI, aJ, aK, aL, aM, aN⟩ := bk6 ag.out) | (go_at_call 31; (with_reducible refine (portreeveref04_name.calls ((rd_T51 aa ab).f3) aB _ A5.out).mono ?_); rintro e w' ⟨rfl, ⟨nd, rfl⟩⟩; (try first | exact ⟨rfl, _, World.drewN_drewN _ _ _⟩ | exact ⟨rfl, _, Eq.trans (World.drewN_drewN _ _ _) (congrArg (World.drewN _) (Nat.add_assoc _ _ _))⟩)) | (go_at_call 36; (with_reducible refine (portreeveref04_pool.calls ((rd_T51 aa ab).f2) aw _ A6.out).mono ?_); rintro e w' ⟨rfl, ⟨nd, rfl⟩⟩; (try first | exact ⟨rfl, _, World.drewN_drewN _ _ _⟩ | exact ⟨rfl, _, Eq.trans (World.drewN_drewN _ _ _) (congrArg (World.drewN _) (Nat.add_assoc _ _ _))⟩)))
     repeat (go_quiet (first | ((with_reducible refine gate_dst (N := 4) rfl ?_); refine box_event ?hg (N := 4) ?hd (cs := #[.int .i64 0, .int .i64 0, .int .u32 0, .string (⟨#[]⟩ : ByteArray), .int .u64 0, .int .u64 0]) (t := 51) ?hr ?_; (case hd => rfl); (case hg => rfl); (case hr => first | (go_simp; done) | (go_simp; rfl)); intro ao hg w9 hbox hb; have n0_ := Aside0.mk (blk_below (g := ak) (o := .cells #[.int .i64 ad, .slice (some am) aa.length ap, .slice aq ae.length ar, .slice au af.length av] 46 (0, 0)) (zB ac.out) hb); have n1_ := Aside0.mk (below_step (by repeat (first | (with_reducible first | exact HB.out | apply pA | apply pN | apply pD | refine pS ?_ aj.out) | exact HB.out)) hb); have n2_ := Aside0.mk (hbox); have n3_ := Aside0.mk ((by rw [hg]; exact (below_size (by repeat (first | (with_reducible first | exact HB.out | apply pA | apply pN | apply pD | refine pS ?_ aj.out) | exact HB.out))) : w.heap.size ≤ ao)); have n4_ := Aside0.mk ((by rw [hg]; exact (below_size (by repeat (first | (with_reducible first | exact HB.out | apply pA | apply pN | apply pD | refine pS ?_ aj.out) | exact HB.out))) : w.heap.size ≤ ao)); have n5_ := Aside0.mk ((by rw [hg]; exact Nat.ne_of_lt (blk_lt (g := ak) (o := .cells #[.int .i64 ad, .slice (some am) aa.length ap, .slice aq ae.length ar, .slice au af.length av] 46 (0, 0)) (zB ac.out)) : ak ≠ ao)); have n6_ := Aside0.mk ((by rw [hg]; exact Nat.ne_of_gt (blk_lt (g := ak) (o := .cells #[.int .i64 ad, .slice (some am) aa.length ap, .slice aq ae.length ar, .slice au af.length av] 46 (0, 0)) (zB ac.out)) : ao ≠ ak)); clear ac; clear HB; have ac := n0_; have HB := n1_; have ag := n2_; have eS := n3_; have an := n4_; have ah := n5_; have ai := n6_; clear n0_ n1_ n2_ n3_ n4_ n5_ n6_; clear hb hbox hg; have eT := ai.out; have eU := ah.out; obtain ⟨aC, aD, aE, aF, aG, aH, aI, aJ, aK, aL, aM, aN⟩ := bk6 ag.out) | (go_at_call 31; (with_reducible refine (portreeveref04_name.calls ((rd_T51 aa ab).f3) aB _ A5.out).mono ?_); rintro e w' ⟨rfl, ⟨nd, rfl⟩⟩; (try first | exact ⟨rfl, _, World.drewN_drewN _ _ _⟩ | exact ⟨rfl, _, Eq.trans (World.drewN_drewN _ _ _) (congrArg (World.drewN _) (Nat.add_assoc _ _ _))⟩)) | (go_at_call 36; (with_reducible refine (portreeveref04_pool.calls ((rd_T51 aa ab).f2) aw _ A6.out).mono ?_); rintro e w' ⟨rfl, ⟨nd, rfl⟩⟩; (try first | exact ⟨rfl, _, World.drewN_drewN _ _ _⟩ | exact ⟨rfl, _, Eq.trans (World.drewN_drewN _ _ _) (congrArg (World.drewN _) (Nat.add_assoc _ _ _))⟩))); go_upto_region 7 with (first | ((with_reducible refine gate_dst (N := 4) rfl ?_); refine box_event ?hg (N := 4) ?hd (cs := #[.int .i64 0, .int .i64 0, .int .u32 0, .string (⟨#[]⟩ : ByteArray), .int .u64 0, .int .u64 0]) (t := 51) ?hr ?_; (case hd => rfl); (case hg => rfl); (case hr => first | (go_simp; done) | (go_simp; rfl)); intro ao hg w9 hbox hb; have n0_ := Aside0.mk (blk_below (g := ak) (o := .cells #[.int .i64 ad, .slice (some am) aa.length ap, .slice aq ae.length ar, .slice au af.length av] 46 (0, 0)) (zB ac.out) hb); have n1_ := Aside0.mk (below_step (by repeat (first | (with_reducible first | exact HB.out | apply pA | apply pN | apply pD | refine pS ?_ aj.out) | exact HB.out)) hb); have n2_ := Aside0.mk (hbox); have n3_ := Aside0.mk ((by rw [hg]; exact (below_size (by repeat (first | (with_reducible first | exact HB.out | apply pA | apply pN | apply pD | refine pS ?_ aj.out) | exact HB.out))) : w.heap.size ≤ ao)); have n4_ := Aside0.mk ((by rw [hg]; exact (below_size (by repeat (first | (with_reducible first | exact HB.out | apply pA | apply pN | apply pD | refine pS ?_ aj.out) | exact HB.out))) : w.heap.size ≤ ao)); have n5_ := Aside0.mk ((by rw [hg]; exact Nat.ne_of_lt (blk_lt (g := ak) (o := .cells #[.int .i64 ad, .slice (some am) aa.length ap, .slice aq ae.length ar, .slice au af.length av] 46 (0, 0)) (zB ac.out)) : ak ≠ ao)); have n6_ := Aside0.mk ((by rw [hg]; exact Nat.ne_of_gt (blk_lt (g := ak) (o := .cells #[.int .i64 ad, .slice (some am) aa.length ap, .slice aq ae.length ar, .slice au af.length av] 46 (0, 0)) (zB ac.out)) : ao ≠ ak)); clear ac; clear HB; have ac := n0_; have HB := n1_; have ag := n2_; have eS := n3_; have an := n4_; have ah := n5_; have ai := n6_; clear n0_ n1_ n2_ n3_ n4_ n5_ n6_; clear hb hbox hg; have eT := ai.out; have eU := ah.out; obtain ⟨aC, aD, aE, aF, aG, aH, aI, aJ, aK, aL, aM, aN⟩ := bk6 ag.out) | (go_at_call 31; (with_reducible refine (portreeveref04_name.calls ((rd_T51 aa ab).f3) aB _ A5.out).mono ?_); rintro e w' ⟨rfl, ⟨nd, rfl⟩⟩; (try first | exact ⟨rfl, _, World.drewN_drewN _ _ _⟩ | exact ⟨rfl, _, Eq.trans (World.drewN_drewN _ _ _) (congrArg (World.drewN _) (Nat.add_assoc _ _ _))⟩)) | (go_at_call 36; (with_reducible refine (portreeveref04_pool.calls ((rd_T51 aa ab).f2) aw _ A6.out).mono ?_); rintro e w' ⟨rfl, ⟨nd, rfl⟩⟩; (try first | exact ⟨rfl, _, World.drewN_drewN _ _ _⟩ | exact ⟨rfl, _, Eq.trans (World.drewN_drewN _ _ _) (congrArg (World.drewN _) (Nat.add_assoc _ _ _))⟩))))
     (try simp only [Act.put, sT, s0, s1])
     refine settle_ (fun wn_ => Aside0 (wn_.heap[ak]? = some (.cells #[.int .i64 ad, .slice (some am) aa.length ap, .slice aq ae.length ar, .slice au af.length av] 46 (0, 0))) ∧ Aside0 (wn_.heap[ao]? = some (.cells #[.int .i64 ((rd_T51 aa ab).f0), .int .i64 ((rd_T51 aa ab).f1), .int .u32 ((rd_T51 aa ab).f2), .string ((rd_T51 aa ab).f3), .int .u64 ((rd_T51 aa ab).f4), .int .u64 ((rd_T51 aa ab).f5)] 51 (0, 0))) ∧ Aside0 (Below w.heap.size w wn_)) ⟨⟨fB ah.out ac.out⟩, ⟨by (with_reducible repeat (first | refine qN ?_ _ | refine qD ?_ | refine qA ?_ _)); refine blk_put (cs := #[.int .i64 ((rd_T51 aa ab).f0), .int .i64 ((rd_T51 aa ab).f1), .int .u32 ((rd_T51 aa ab).f2), .string ((rd_T51 aa ab).f3), .int .u64 ((rd_T51 aa ab).f4), .int .u64 0]) ?_ 5 _ rfl; (with_reducible repeat (first | refine qN ?_ _ | refine qD ?_ | refine qA ?_ _)); refine blk_put (cs := #[.int .i64 ((rd_T51 aa ab).f0), .int .i64 ((rd_T51 aa ab).f1), .int .u32 ((rd_T51 aa ab).f2), .string ((rd_T51 aa ab).f3), .int .u64 0, .int .u64 0]) ?_ 4 _ rfl; (with_reducible repeat (first | refine qN ?_ _ | refine qD ?_ | refine qA ?_ _)); refine blk_put (cs := #[.int .i64 ((rd_T51 aa ab).f0), .int .i64 ((rd_T51 aa ab).f1), .int .u32 ((rd_T51 aa ab).f2), .string (⟨#[]⟩ : ByteArray), .int .u64 0, .int .u64 0]) ?_ 3 _ rfl; (with_reducible repeat (first | refine qN ?_ _ | refine qD ?_ | refine qA ?_ _)); refine blk_put (cs := #[.int .i64 ((rd_T51 aa ab).f0), .int .i64 ((rd_T51 aa ab).f1), .int .u32 0, .string (⟨#[]⟩ : ByteArray), .int .u64 0, .int .u64 0]) ?_ 2 _ rfl; (with_reducible repeat (first | refine qN ?_ _ | refine qD ?_ | refine qA ?_ _)); refine blk_put (cs := #[.int .i64 ((rd_T51 aa ab).f0), .int .i64 0, .int .u32 0, .string (⟨#[]⟩ : ByteArray), .int .u64 0, .int .u64 0]) ?_ 1 _ rfl; (with_reducible repeat (first | refine qN ?_ _ | refine qD ?_ | refine qA ?_ _)); refine blk_put (cs := #[.int .i64 0, .int .i64 0, .int .u32 0, .string (⟨#[]⟩ : ByteArray), .int .u64 0, .int .u64 0]) ?_ 0 _ rfl; (with_reducible repeat (first | refine qN ?_ _ | refine qD ?_ | refine qA ?_ _)); exact ag.out⟩, ⟨by repeat (first | (with_reducible first | exact HB.out | apply pA | apply pN | apply pD | refine pS ?_ aj.out | refine pS ?_ an.out) | exact HB.out)⟩⟩ ?_
     clear ac ag HB
     rintro w12 ⟨ac, ag, HB⟩
     go_cut [69] (fun v69 wc => ∃ (kq : Nat) (et : Bool), v69 = .bool et ∧ Aside0 (portreeveref04_open.j1 kq ab et ad aa ae af ((rd_T51 aa ab).f0) ((rd_T51 aa ab).f1) ((rd_T51 aa ab).f2) ((rd_T51 aa ab).f3) ((rd_T51 aa ab).f4) ((rd_T51 aa ab).f5) = some r) ∧ Aside0 (kq ≤ k1) ∧ Aside0 (wc.heap[ak]? = some (.cells #[.int .i64 ad, (.slice (some am) aa.length ap), (.slice aq ae.length ar), (.slice au af.length av)] 46 (0, 0))) ∧ Aside0 (wc.heap[ao]? = some (.cells #[.int .i64 ((rd_T51 aa ab).f0), .int .i64 ((rd_T51 aa ab).f1), .int .u32 ((rd_T51 aa ab).f2), .string ((rd_T51 aa ab).f3), .int .u64 ((rd_T51 aa ab).f4), .int .u64 ((rd_T51 aa ab).f5)] 51 (0, 0))) ∧ Aside0 (Below w.heap.size w wc))
     case first =>
      have H := HC7.out
      clear HC7
      by_cases c13 : ((rd_T51 aa ab).f0) < 0
      ·rw [if_pos c13] at H
       have aA : decide (((rd_T51 aa ab).f0) < 0) = true := decide_eq_true c13
       clear c13
       (first | rw [aA] | (simp only [i64_w, i32_w]; rw [aA]) | skip)
       have H' := Aside0.mk H
       clear H
       have fX := ai.out
       have fY := ah.out
       obtain ⟨aQ, aR, aS, aT, aU, aV, aW, aX, aY, aZ, a4, a5⟩ := bk6 ag.out
       go_wp2
       repeat (go_quiet (fail); try go_wp2)
       go_meet
       case rel => exact ⟨_, (true), (by first | rfl | (simp; done) | (simp [*]; done)), H', ⟨by have := ax.out; first | omega | exact Nat.le_refl _⟩, ⟨zB ac.out⟩, ⟨zB ag.out⟩, ⟨by repeat (first | (with_reducible first | exact HB.out | apply pA | apply pN | apply pD | refine pS ?_ aj.out | refine pS ?_ an.out) | exact HB.out)⟩⟩
      ·rw [if_neg c13] at H
       have aA : decide (((rd_T51 aa ab).f0) < 0) = false := decide_eq_false c13
       clear c13
       (first | rw [aA] | (simp only [i64_w, i32_w]; rw [aA]) | skip)
       by_cases c16 : ((rd_T51 aa ab).f0) ≥ ad
       ·rw [if_pos c16] at H
        have eu : decide (ad ≤ ((rd_T51 aa ab).f0)) = true := decide_eq_true c16
        clear c16
        have H' := Aside0.mk H
        clear H
        have fZ := ai.out
        have f6 := ah.out
        obtain ⟨a6, a7, a8, a9, ba, bb, bc, bd, be, bf, bg, bh⟩ := bk6 ag.out
        obtain ⟨bi, bj, bk, bl, bm, bn, bo, bp⟩ := bk4 ac.out
        go_wp2
        repeat (go_quiet (fail); try go_wp2)
        go_meet
        case rel => exact ⟨_, (true), (by first | rfl | (simp; done) | (simp [*]; done)), H', ⟨by have := ax.out; first | omega | exact Nat.le_refl _⟩, ⟨zB ac.out⟩, ⟨zB ag.out⟩, ⟨by repeat (first | (with_reducible first | exact HB.out | apply pA | apply pN | apply pD | refine pS ?_ aj.out | refine pS ?_ an.out) | exact HB.out)⟩⟩
       ·rw [if_neg c16] at H
        have eu : decide (ad ≤ ((rd_T51 aa ab).f0)) = false := decide_eq_false c16
        clear c16
        by_cases c20 : ab > 0
        ·rw [if_pos c20] at H
         have ev : decide (0 < ab) = true := decide_eq_true c20
         clear c20
         obtain ⟨ji21, hji21⟩ : ∃ j_ : Int, (wrap64 (ab - 1)) = j_ := ⟨_, rfl⟩
         replace H : (if 0 ≤ (ji21) then (if (ji21) < (aa.length : Int) then (if ((rd_T51 aa (ji21)).f0) ≥ ((rd_T51 aa ab).f0) then (portreeveref04_open.j1 k1 ab true ad aa ae af ((rd_T51 aa ab).f0) ((rd_T51 aa ab).f1) ((rd_T51 aa ab).f2) ((rd_T51 aa ab).f3) ((rd_T51 aa ab).f4) ((rd_T51 aa ab).f5)) else (if ((rd_T51 aa ab).f1) < 0 then (portreeveref04_open.j1 k1 ab true ad aa ae af ((rd_T51 aa ab).f0) ((rd_T51 aa ab).f1) ((rd_T51 aa ab).f2) ((rd_T51 aa ab).f3) ((rd_T51 aa ab).f4) ((rd_T51 aa ab).f5)) else (if ((rd_T51 aa ab).f1) > 7 then (portreeveref04_open.j1 k1 ab true ad aa ae af ((rd_T51 aa ab).f0) ((rd_T51 aa ab).f1) ((rd_T51 aa ab).f2) ((rd_T51 aa ab).f3) ((rd_T51 aa ab).f4) ((rd_T51 aa ab).f5)) else (if aB = true then (portreeveref04_open.j1 k1 ab (!aw) ad aa ae af ((rd_T51 aa ab).f0) ((rd_T51 aa ab).f1) ((rd_T51 aa ab).f2) ((rd_T51 aa ab).f3) ((rd_T51 aa ab).f4) ((rd_T51 aa ab).f5)) else (portreeveref04_open.j1 k1 ab true ad aa ae af ((rd_T51 aa ab).f0) ((rd_T51 aa ab).f1) ((rd_T51 aa ab).f2) ((rd_T51 aa ab).f3) ((rd_T51 aa ab).f4) ((rd_T51 aa ab).f5)))))) else (none)) else (none)) = some r := by first | (rw [hji21] at H; exact H) | (simp only [hji21] at H ⊢; exact H)
         have hji21w : (IntKind.i64.wrap (ab - 1)) = ji21 := (i64_w _).trans hji21
         by_cases c22 : 0 ≤ (ji21)
         ·rw [if_pos c22] at H
          have eM : decide (0 ≤ (ji21)) = true := decide_eq_true c22
          clear c22
          by_cases c23 : (ji21) < (aa.length : Int)
          ·rw [if_pos c23] at H
           have eN : decide ((ji21) < (aa.length : Int)) = true := decide_eq_true c23
           clear c23
           by_cases c24 : ((rd_T51 aa (ji21)).f0) ≥ ((rd_T51 aa ab).f0)
           ·rw [if_pos c24] at H
            have ew : decide (((rd_T51 aa ab).f0) ≤ ((rd_T51 aa (ji21)).f0)) = true := decide_eq_true c24
            clear c24
            have H' := Aside0.mk H
            clear H
            have f7 := ai.out
            have f8 := ah.out
            obtain ⟨bq, br, bs, bt, bu, bv, bw, bx, bz, bA, bB, bC⟩ := bk6 ag.out
            obtain ⟨bD, bE, bF, bG, bH, bI, bJ, bK⟩ := bk4 ac.out
            have p243 : 0 ≤ ((ji21) : Int) := of_decide_eq_true (by first | (with_reducible assumption) | assumption)
            have q243 : (ji21) < (aa.length : Int) := of_decide_eq_true (by first | (with_reducible assumption) | assumption)
            obtain ⟨az, e243, hx243_0, hx243_1, hx243_2, hx243_3, hx243_4, hx243_5⟩ := at_T51 ay.out (ji21) p243 q243
            obtain rfl : am = az := (by injection e243)
            replace hx243_0 := (HB.out.cell (World.block_lt_of_cell? w _ hx243_0)).trans hx243_0
            replace hx243_1 := (HB.out.cell (World.block_lt_of_cell? w _ hx243_1)).trans hx243_1
            replace hx243_2 := (HB.out.cell (World.block_lt_of_cell? w _ hx243_2)).trans hx243_2
            replace hx243_3 := (HB.out.cell (World.block_lt_of_cell? w _ hx243_3)).trans hx243_3
            replace hx243_4 := (HB.out.cell (World.block_lt_of_cell? w _ hx243_4)).trans hx243_4
            replace hx243_5 := (HB.out.cell (World.block_lt_of_cell? w _ hx243_5)).trans hx243_5
            replace p243 := eq_true p243
            replace q243 := eq_true q243
            go_wp2
            repeat (go_quiet (fail); try go_wp2)
            go_meet
            case rel => exact ⟨_, (true), (by first | rfl | (simp; done) | (simp [*]; done)), H', ⟨by have := ax.out; first | omega | exact Nat.le_refl _⟩, ⟨zB ac.out⟩, ⟨zB ag.out⟩, ⟨by repeat (first | (with_reducible first | exact HB.out | apply pA | apply pN | apply pD | refine pS ?_ aj.out | refine pS ?_ an.out) | exact HB.out)⟩⟩
           ·rw [if_neg c24] at H
            have ew : decide (((rd_T51 aa ab).f0) ≤ ((rd_T51 aa (ji21)).f0)) = false := decide_eq_false c24
            clear c24
            by_cases c28 : ((rd_T51 aa ab).f1) < 0
            ·rw [if_pos c28] at H
             have ex : decide (((rd_T51 aa ab).f1) < 0) = true := decide_eq_true c28
             clear c28
             have H' := Aside0.mk H
             clear H
             have f9 := ai.out
             have ga := ah.out
             obtain ⟨bL, bM, bN, bO, bP, bQ, bR, bS, bT, bU, bV, bW⟩ := bk6 ag.out
             obtain ⟨bX, bY, bZ, b0, b1, b2, b3, b4⟩ := bk4 ac.out
             have p243 : 0 ≤ ((ji21) : Int) := of_decide_eq_true (by first | (with_reducible assumption) | assumption)
             have q243 : (ji21) < (aa.length : Int) := of_decide_eq_true (by first | (with_reducible assumption) | assumption)
             obtain ⟨az, e243, hx243_0, hx243_1, hx243_2, hx243_3, hx243_4, hx243_5⟩ := at_T51 ay.out (ji21) p243 q243
             obtain rfl : am = az := (by injection e243)
             replace hx243_0 := (HB.out.cell (World.block_lt_of_cell? w _ hx243_0)).trans hx243_0
             replace hx243_1 := (HB.out.cell (World.block_lt_of_cell? w _ hx243_1)).trans hx243_1
             replace hx243_2 := (HB.out.cell (World.block_lt_of_cell? w _ hx243_2)).trans hx243_2
             replace hx243_3 := (HB.out.cell (World.block_lt_of_cell? w _ hx243_3)).trans hx243_3
             replace hx243_4 := (HB.out.cell (World.block_lt_of_cell? w _ hx243_4)).trans hx243_4
             replace hx243_5 := (HB.out.cell (World.block_lt_of_cell? w _ hx243_5)).trans hx243_5
             replace p243 := eq_true p243
             replace q243 := eq_true q243
             go_wp2
             repeat (go_quiet (fail); try go_wp2)
             go_meet
             case rel => exact ⟨_, (true), (by first | rfl | (simp; done) | (simp [*]; done)), H', ⟨by have := ax.out; first | omega | exact Nat.le_refl _⟩, ⟨zB ac.out⟩, ⟨zB ag.out⟩, ⟨by repeat (first | (with_reducible first | exact HB.out | apply pA | apply pN | apply pD | refine pS ?_ aj.out | refine pS ?_ an.out) | exact HB.out)⟩⟩
            ·rw [if_neg c28] at H
             have ex : decide (((rd_T51 aa ab).f1) < 0) = false := decide_eq_false c28
             clear c28
             by_cases c32 : ((rd_T51 aa ab).f1) > 7
             ·rw [if_pos c32] at H
              have ey : decide (7 < ((rd_T51 aa ab).f1)) = true := decide_eq_true c32
              clear c32
              have H' := Aside0.mk H
              clear H
              have gb := ai.out
              have gc := ah.out
              obtain ⟨b5, b6, b7, b8, b9, ca, cb, cc, cd, ce, cf, cg⟩ := bk6 ag.out
              obtain ⟨ch, ci, cj, ck, cl, cm, cn, co⟩ := bk4 ac.out
              have p243 : 0 ≤ ((ji21) : Int) := of_decide_eq_true (by first | (with_reducible assumption) | assumption)
              have q243 : (ji21) < (aa.length : Int) := of_decide_eq_true (by first | (with_reducible assumption) | assumption)
              obtain ⟨az, e243, hx243_0, hx243_1, hx243_2, hx243_3, hx243_4, hx243_5⟩ := at_T51 ay.out (ji21) p243 q243
              obtain rfl : am = az := (by injection e243)
              replace hx243_0 := (HB.out.cell (World.block_lt_of_cell? w _ hx243_0)).trans hx243_0
              replace hx243_1 := (HB.out.cell (World.block_lt_of_cell? w _ hx243_1)).trans hx243_1
              replace hx243_2 := (HB.out.cell (World.block_lt_of_cell? w _ hx243_2)).trans hx243_2
              replace hx243_3 := (HB.out.cell (World.block_lt_of_cell? w _ hx243_3)).trans hx243_3
              replace hx243_4 := (HB.out.cell (World.block_lt_of_cell? w _ hx243_4)).trans hx243_4
              replace hx243_5 := (HB.out.cell (World.block_lt_of_cell? w _ hx243_5)).trans hx243_5
              replace p243 := eq_true p243
              replace q243 := eq_true q243
              go_wp2
              repeat (go_quiet (fail); try go_wp2)
              go_meet
              case rel => exact ⟨_, (true), (by first | rfl | (simp; done) | (simp [*]; done)), H', ⟨by have := ax.out; first | omega | exact Nat.le_refl _⟩, ⟨zB ac.out⟩, ⟨zB ag.out⟩, ⟨by repeat (first | (with_reducible first | exact HB.out | apply pA | apply pN | apply pD | refine pS ?_ aj.out | refine pS ?_ an.out) | exact HB.out)⟩⟩
             ·rw [if_neg c32] at H
              have ey : decide (7 < ((rd_T51 aa ab).f1)) = false := decide_eq_false c32
              clear c32
              by_cases c36 : aB = true
              ·subst c36
               have H1 : (portreeveref04_open.j1 k1 ab (!aw) ad aa ae af ((rd_T51 aa ab).f0) ((rd_T51 aa ab).f1) ((rd_T51 aa ab).f2) ((rd_T51 aa ab).f3) ((rd_T51 aa ab).f4) ((rd_T51 aa ab).f5)) = some r := by rw [if_pos rfl] at H; exact H
               clear H
               have H := H1
               clear H1
               have H' := Aside0.mk H
               clear H
               have gd := ai.out
               have ge := ah.out
               obtain ⟨cp, cq, cr, ct, cu, cv, cw, cx, cy, cz, cA, cB⟩ := bk6 ag.out
               obtain ⟨cC, cD, cE, cF, cG, cH, cI, cJ⟩ := bk4 ac.out
               have p243 : 0 ≤ ((ji21) : Int) := of_decide_eq_true (by first | (with_reducible assumption) | assumption)
               have q243 : (ji21) < (aa.length : Int) := of_decide_eq_true (by first | (with_reducible assumption) | assumption)
               obtain ⟨az, e243, hx243_0, hx243_1, hx243_2, hx243_3, hx243_4, hx243_5⟩ := at_T51 ay.out (ji21) p243 q243
               obtain rfl : am = az := (by injection e243)
               replace hx243_0 := (HB.out.cell (World.block_lt_of_cell? w _ hx243_0)).trans hx243_0
               replace hx243_1 := (HB.out.cell (World.block_lt_of_cell? w _ hx243_1)).trans hx243_1
               replace hx243_2 := (HB.out.cell (World.block_lt_of_cell? w _ hx243_2)).trans hx243_2
               replace hx243_3 := (HB.out.cell (World.block_lt_of_cell? w _ hx243_3)).trans hx243_3
               replace hx243_4 := (HB.out.cell (World.block_lt_of_cell? w _ hx243_4)).trans hx243_4
               replace hx243_5 := (HB.out.cell (World.block_lt_of_cell? w _ hx243_5)).trans hx243_5
               replace p243 := eq_true p243
               replace q243 := eq_true q243
               go_wp2
               repeat (go_quiet (fail); try go_wp2)
               go_meet
               case rel => exact ⟨_, (!aw), (by first | rfl | (simp; done) | (simp [*]; done)), H', ⟨by have := ax.out; first | omega | exact Nat.le_refl _⟩, ⟨zB ac.out⟩, ⟨zB ag.out⟩, ⟨by repeat (first | (with_reducible first | exact HB.out | apply pA | apply pN | apply pD | refine pS ?_ aj.out | refine pS ?_ an.out) | exact HB.out)⟩⟩
              ·replace c36 := Bool.eq_false_iff.mpr c36
               subst c36
               have H1 : (portreeveref04_open.j1 k1 ab true ad aa ae af ((rd_T51 aa ab).f0) ((rd_T51 aa ab).f1) ((rd_T51 aa ab).f2) ((rd_T51 aa ab).f3) ((rd_T51 aa ab).f4) ((rd_T51 aa ab).f5)) = some r := by rw [if_neg (show ¬ (false = true) by decide)] at H; exact H
               clear H
               have H := H1
               clear H1
               have H' := Aside0.mk H
               clear H
               have gf := ai.out
               have gg := ah.out
               obtain ⟨cK, cL, cM, cN, cO, cP, cQ, cR, cS, cT, cU, cV⟩ := bk6 ag.out
               obtain ⟨cW, cX, cY, cZ, c0, c7, c8, c9⟩ := bk4 ac.out
               have p243 : 0 ≤ ((ji21) : Int) := of_decide_eq_true (by first | (with_reducible assumption) | assumption)
               have q243 : (ji21) < (aa.length : Int) := of_decide_eq_true (by first | (with_reducible assumption) | assumption)
               obtain ⟨az, e243, hx243_0, hx243_1, hx243_2, hx243_3, hx243_4, hx243_5⟩ := at_T51 ay.out (ji21) p243 q243
               obtain rfl : am = az := (by injection e243)
               replace hx243_0 := (HB.out.cell (World.block_lt_of_cell? w _ hx243_0)).trans hx243_0
               replace hx243_1 := (HB.out.cell (World.block_lt_of_cell? w _ hx243_1)).trans hx243_1
               replace hx243_2 := (HB.out.cell (World.block_lt_of_cell? w _ hx243_2)).trans hx243_2
               replace hx243_3 := (HB.out.cell (World.block_lt_of_cell? w _ hx243_3)).trans hx243_3
               replace hx243_4 := (HB.out.cell (World.block_lt_of_cell? w _ hx243_4)).trans hx243_4
               replace hx243_5 := (HB.out.cell (World.block_lt_of_cell? w _ hx243_5)).trans hx243_5
               replace p243 := eq_true p243
               replace q243 := eq_true q243
               go_wp2
               repeat (go_quiet (fail); try go_wp2)
               go_meet
               case rel => exact ⟨_, (true), (by first | rfl | (simp; done) | (simp [*]; done)), H', ⟨by have := ax.out; first | omega | exact Nat.le_refl _⟩, ⟨zB ac.out⟩, ⟨zB ag.out⟩, ⟨by repeat (first | (with_reducible first | exact HB.out | apply pA | apply pN | apply pD | refine pS ?_ aj.out | refine pS ?_ an.out) | exact HB.out)⟩⟩
          ·rw [if_neg c23] at H
           exact absurd H (by simp)
         ·rw [if_neg c22] at H
          exact absurd H (by simp)
        ·rw [if_neg c20] at H
         have ev : decide (0 < ab) = false := decide_eq_false c20
         clear c20
         by_cases c43 : ((rd_T51 aa ab).f1) < 0
         ·rw [if_pos c43] at H
          have ez : decide (((rd_T51 aa ab).f1) < 0) = true := decide_eq_true c43
          clear c43
          have H' := Aside0.mk H
          clear H
          have gh := ai.out
          have gi := ah.out
          obtain ⟨da, db, dc, dd, de, df, dg, dh, di, dj, dk, dl⟩ := bk6 ag.out
          obtain ⟨dm, dn, dp, dq, dr, ds, dt, du⟩ := bk4 ac.out
          go_wp2
          repeat (go_quiet (fail); try go_wp2)
          go_meet
          case rel => exact ⟨_, (true), (by first | rfl | (simp; done) | (simp [*]; done)), H', ⟨by have := ax.out; first | omega | exact Nat.le_refl _⟩, ⟨zB ac.out⟩, ⟨zB ag.out⟩, ⟨by repeat (first | (with_reducible first | exact HB.out | apply pA | apply pN | apply pD | refine pS ?_ aj.out | refine pS ?_ an.out) | exact HB.out)⟩⟩
         ·rw [if_neg c43] at H
          have ez : decide (((rd_T51 aa ab).f1) < 0) = false := decide_eq_false c43
          clear c43
          by_cases c47 : ((rd_T51 aa ab).f1) > 7
          ·rw [if_pos c47] at H
           have eA : decide (7 < ((rd_T51 aa ab).f1)) = true := decide_eq_true c47
           clear c47
           have H' := Aside0.mk H
           clear H
           have gj := ai.out
           have gl := ah.out
           obtain ⟨dv, dw, dx, dy, dz, dA, dB, dC, dD, dE, dF, dG⟩ := bk6 ag.out
           obtain ⟨dH, dI, dJ, dK, dL, dM, dN, dO⟩ := bk4 ac.out
           go_wp2
           repeat (go_quiet (fail); try go_wp2)
           go_meet
           case rel => exact ⟨_, (true), (by first | rfl | (simp; done) | (simp [*]; done)), H', ⟨by have := ax.out; first | omega | exact Nat.le_refl _⟩, ⟨zB ac.out⟩, ⟨zB ag.out⟩, ⟨by repeat (first | (with_reducible first | exact HB.out | apply pA | apply pN | apply pD | refine pS ?_ aj.out | refine pS ?_ an.out) | exact HB.out)⟩⟩
          ·rw [if_neg c47] at H
           have eA : decide (7 < ((rd_T51 aa ab).f1)) = false := decide_eq_false c47
           clear c47
           by_cases c51 : aB = true
           ·subst c51
            have H1 : (portreeveref04_open.j1 k1 ab (!aw) ad aa ae af ((rd_T51 aa ab).f0) ((rd_T51 aa ab).f1) ((rd_T51 aa ab).f2) ((rd_T51 aa ab).f3) ((rd_T51 aa ab).f4) ((rd_T51 aa ab).f5)) = some r := by rw [if_pos rfl] at H; exact H
            clear H
            have H := H1
            clear H1
            have H' := Aside0.mk H
            clear H
            have gm := ai.out
            have gn := ah.out
            obtain ⟨dP, dQ, dR, dS, dT, dU, dV, dW, dX, dY, dZ, d0⟩ := bk6 ag.out
            obtain ⟨d1, d2, d3, d4, d5, d6, d7, d8⟩ := bk4 ac.out
            go_wp2
            repeat (go_quiet (fail); try go_wp2)
            go_meet
            case rel => exact ⟨_, (!aw), (by first | rfl | (simp; done) | (simp [*]; done)), H', ⟨by have := ax.out; first | omega | exact Nat.le_refl _⟩, ⟨zB ac.out⟩, ⟨zB ag.out⟩, ⟨by repeat (first | (with_reducible first | exact HB.out | apply pA | apply pN | apply pD | refine pS ?_ aj.out | refine pS ?_ an.out) | exact HB.out)⟩⟩
           ·replace c51 := Bool.eq_false_iff.mpr c51
            subst c51
            have H1 : (portreeveref04_open.j1 k1 ab true ad aa ae af ((rd_T51 aa ab).f0) ((rd_T51 aa ab).f1) ((rd_T51 aa ab).f2) ((rd_T51 aa ab).f3) ((rd_T51 aa ab).f4) ((rd_T51 aa ab).f5)) = some r := by rw [if_neg (show ¬ (false = true) by decide)] at H; exact H
            clear H
            have H := H1
            clear H1
            have H' := Aside0.mk H
            clear H
            have go := ai.out
            have gp := ah.out
            obtain ⟨d9, ea, eb, ec, ed, ee, ef, eg, eh, ei, ej, ek⟩ := bk6 ag.out
            obtain ⟨el, em, en, eo, ep, eq, er, es⟩ := bk4 ac.out
            go_wp2
            repeat (go_quiet (fail); try go_wp2)
            go_meet
            case rel => exact ⟨_, (true), (by first | rfl | (simp; done) | (simp [*]; done)), H', ⟨by have := ax.out; first | omega | exact Nat.le_refl _⟩, ⟨zB ac.out⟩, ⟨zB ag.out⟩, ⟨by repeat (first | (with_reducible first | exact HB.out | apply pA | apply pN | apply pD | refine pS ?_ aj.out | refine pS ?_ an.out) | exact HB.out)⟩⟩
     case rest =>
      clear HC7
      try clear c1
      try clear c2
      try clear p2
      try clear q2
      try clear hx2
      try clear c3
      try clear eL
      try clear c4
      try clear eQ
      try clear c5
      try clear p6
      try clear c10
      try clear c13
      try clear aA
      try clear c14
      try clear c16
      try clear eu
      try clear c17
      try clear c20
      try clear ev
      try clear c22
      try clear eM
      try clear c23
      try clear eN
      try clear p23
      try clear q23
      try clear hx23
      try clear c24
      try clear ew
      try clear p24
      try clear q24
      try clear hx24
      try clear c25
      try clear c28
      try clear ex
      try clear c29
      try clear c32
      try clear ey
      try clear c33
      try clear c36
      try clear c37
      try clear c40
      try clear c43
      try clear ez
      try clear c44
      try clear c47
      try clear eA
      try clear c48
      try clear c51
      try clear c52
      try clear c55
      try clear aC
      try clear aD
      try clear aE
      try clear aF
      try clear aG
      try clear aH
      try clear aQ
      try clear aR
      try clear aS
      try clear aT
      try clear aU
      try clear aV
      try clear a6
      try clear a7
      try clear a8
      try clear a9
      try clear ba
      try clear bb
      try clear bi
      try clear bj
      try clear bk
      try clear bl
      try clear bq
      try clear br
      try clear bs
      try clear bt
      try clear bu
      try clear bv
      try clear bD
      try clear bE
      try clear bF
      try clear bG
      try clear bL
      try clear bM
      try clear bN
      try clear bO
      try clear bP
      try clear bQ
      try clear bX
      try clear bY
      try clear bZ
      try clear b0
      try clear b5
      try clear b6
      try clear b7
      try clear b8
      try clear b9
      try clear ca
      try clear ch
      try clear ci
      try clear cj
      try clear ck
      try clear cp
      try clear cq
      try clear cr
      try clear ct
      try clear cu
      try clear cv
      try clear cC
      try clear cD
      try clear cE
      try clear cF
      try clear cK
      try clear cL
      try clear cM
      try clear cN
      try clear cO
      try clear cP
      try clear cW
      try clear cX
      try clear cY
      try clear cZ
      try clear da
      try clear db
      try clear dc
      try clear dd
      try clear de
      try clear df
      try clear dm
      try clear dn
      try clear dp
      try clear dq
      try clear dv
      try clear dw
      try clear dx
      try clear dy
      try clear dz
      try clear dA
      try clear dH
      try clear dI
      try clear dJ
      try clear dK
      try clear dP
      try clear dQ
      try clear dR
      try clear dS
      try clear dT
      try clear dU
      try clear d1
      try clear d2
      try clear d3
      try clear d4
      try clear d9
      try clear ea
      try clear eb
      try clear ec
      try clear ed
      try clear ee
      try clear el
      try clear em
      try clear en
      try clear eo
      try clear eB
      try clear eC
      try clear eD
      try clear eE
      try clear aI
      try clear aJ
      try clear aK
      try clear aL
      try clear aM
      try clear aN
      try clear aW
      try clear aX
      try clear aY
      try clear aZ
      try clear a4
      try clear a5
      try clear bc
      try clear bd
      try clear be
      try clear bf
      try clear bg
      try clear bh
      try clear bm
      try clear bn
      try clear bo
      try clear bp
      try clear bw
      try clear bx
      try clear bz
      try clear bA
      try clear bB
      try clear bC
      try clear bH
      try clear bI
      try clear bJ
      try clear bK
      try clear bR
      try clear bS
      try clear bT
      try clear bU
      try clear bV
      try clear bW
      try clear b1
      try clear b2
      try clear b3
      try clear b4
      try clear cb
      try clear cc
      try clear cd
      try clear ce
      try clear cf
      try clear cg
      try clear cl
      try clear cm
      try clear cn
      try clear co
      try clear cw
      try clear cx
      try clear cy
      try clear cz
      try clear cA
      try clear cB
      try clear cG
      try clear cH
      try clear cI
      try clear cJ
      try clear cQ
      try clear cR
      try clear cS
      try clear cT
      try clear cU
      try clear cV
      try clear c0
      try clear c7
      try clear c8
      try clear c9
      try clear dg
      try clear dh
      try clear di
      try clear dj
      try clear dk
      try clear dl
      try clear dr
      try clear ds
      try clear dt
      try clear du
      try clear dB
      try clear dC
      try clear dD
      try clear dE
      try clear dF
      try clear dG
      try clear dL
      try clear dM
      try clear dN
      try clear dO
      try clear dV
      try clear dW
      try clear dX
      try clear dY
      try clear dZ
      try clear d0
      try clear d5
      try clear d6
      try clear d7
      try clear d8
      try clear ef
      try clear eg
      try clear eh
      try clear ei
      try clear ej
      try clear ek
      try clear ep
      try clear eq
      try clear er
      try clear es
      try clear eF
      try clear eG
      try clear eH
      try clear eI
      try clear hx239_0
      try clear hx239_1
      try clear hx239_2
      try clear hx239_3
      try clear hx239_4
      try clear hx239_5
      try clear hx243_0
      try clear hx243_1
      try clear hx243_2
      try clear hx243_3
      try clear hx243_4
      try clear hx243_5
      try clear p2
      try clear p239
      try clear p243
      try clear q239
      try clear q243
      obtain ⟨kq, et, rfl, HA, eJ, ac, ag, HB⟩ := hcut
      cases kq with
      | zero => exact absurd HA.out (by simp [portreeveref04_open.j1])
      | succ fE =>
       have H := HA.out
       clear HA
       simp only [portreeveref04_open.j1] at H
       by_cases c58 : et = true
       ·subst c58
        have H1 : (some false) = some r := by rw [if_pos rfl] at H; exact H
        clear H
        have H := H1
        clear H1
        obtain rfl := Option.some.inj H
        go_wp2
        repeat (go_quiet (fail); try go_wp2)
        go_ret
        exact ⟨by first | rfl | (simp [errW_none, errW_some] <;> rfl) | (simp [*, errW_none, errW_some] <;> rfl), by repeat (first | (with_reducible first | exact HB.out | apply pA | apply pN | apply pD | refine pS ?_ aj.out | refine pS ?_ an.out) | exact HB.out)⟩
       ·replace c58 := Bool.eq_false_iff.mpr c58
        subst c58
        have H1 : (portreeveref04_open.l1 fE ab 0 ad aa ae af ((rd_T51 aa ab).f0) ((rd_T51 aa ab).f1) ((rd_T51 aa ab).f2) ((rd_T51 aa ab).f3) ((rd_T51 aa ab).f4) ((rd_T51 aa ab).f5)) = some r := by rw [if_neg (show ¬ (false = true) by decide)] at H; exact H
        clear H
        have H := H1
        clear H1
        have H' := Aside0.mk H
        clear H
        go_wp2
        repeat (go_quiet (fail); try go_wp2)
        go_loopg [7] fE (fun kq v7 w' => ∃ (al : Int), v7 = .int .i64 al ∧ Aside0 (portreeveref04_open.l1 kq ab al ad aa ae af ((rd_T51 aa ab).f0) ((rd_T51 aa ab).f1) ((rd_T51 aa ab).f2) ((rd_T51 aa ab).f3) ((rd_T51 aa ab).f4) ((rd_T51 aa ab).f5) = some r) ∧ Aside0 (kq ≤ fE) ∧ Aside0 (w'.heap[ak]? = some (.cells #[.int .i64 ad, (.slice (some am) aa.length ap), (.slice aq ae.length ar), (.slice au af.length av)] 46 (0, 0))) ∧ Aside0 (w'.heap[ao]? = some (.cells #[.int .i64 ((rd_T51 aa ab).f0), .int .i64 ((rd_T51 aa ab).f1), .int .u32 ((rd_T51 aa ab).f2), .string ((rd_T51 aa ab).f3), .int .u64 ((rd_T51 aa ab).f4), .int .u64 ((rd_T51 aa ab).f5)] 51 (0, 0))) ∧ Aside0 (Below w.heap.size w w'))
        case atStart => exact ⟨(0), (by first | rfl | (simp; done) | (simp [*]; done)), H', ⟨Nat.le_refl _⟩, ⟨zB ac.out⟩, ⟨zB ag.out⟩, ⟨by repeat (first | (with_reducible first | exact HB.out | apply pA | apply pN | apply pD | refine pS ?_ aj.out | refine pS ?_ an.out) | exact HB.out)⟩⟩
        case round =>
         clear H'
         try clear c1
         try clear c2
         try clear p2
         try clear q2
         try clear hx2
         try clear c3
         try clear eL
         try clear c4
         try clear eQ
         try clear c5
         try clear p6
         try clear c10
         try clear c13
         try clear aA
         try clear c14
         try clear c16
         try clear eu
         try clear c17
         try clear c20
         try clear ev
         try clear c22
         try clear eM
         try clear c23
         try clear eN
         try clear p23
         try clear q23
         try clear hx23
         try clear c24
         try clear ew
         try clear p24
         try clear q24
         try clear hx24
         try clear c25
         try clear c28
         try clear ex
         try clear c29
         try clear c32
         try clear ey
         try clear c33
         try clear c36
         try clear c37
         try clear c40
         try clear c43
         try clear ez
         try clear c44
         try clear c47
         try clear eA
         try clear c48
         try clear c51
         try clear c52
         try clear c55
         try clear c58
         try clear aC
         try clear aD
         try clear aE
         try clear aF
         try clear aG
         try clear aH
         try clear aQ
         try clear aR
         try clear aS
         try clear aT
         try clear aU
         try clear aV
         try clear a6
         try clear a7
         try clear a8
         try clear a9
         try clear ba
         try clear bb
         try clear bi
         try clear bj
         try clear bk
         try clear bl
         try clear bq
         try clear br
         try clear bs
         try clear bt
         try clear bu
         try clear bv
         try clear bD
         try clear bE
         try clear bF
         try clear bG
         try clear bL
         try clear bM
         try clear bN
         try clear bO
         try clear bP
         try clear bQ
         try clear bX
         try clear bY
         try clear bZ
         try clear b0
         try clear b5
         try clear b6
         try clear b7
         try clear b8
         try clear b9
         try clear ca
         try clear ch
         try clear ci
         try clear cj
         try clear ck
         try clear cp
         try clear cq
         try clear cr
         try clear ct
         try clear cu
         try clear cv
         try clear cC
         try clear cD
         try clear cE
         try clear cF
         try clear cK
         try clear cL
         try clear cM
         try clear cN
         try clear cO
         try clear cP
         try clear cW
         try clear cX
         try clear cY
         try clear cZ
         try clear da
         try clear db
         try clear dc
         try clear dd
         try clear de
         try clear df
         try clear dm
         try clear dn
         try clear dp
         try clear dq
         try clear dv
         try clear dw
         try clear dx
         try clear dy
         try clear dz
         try clear dA
         try clear dH
         try clear dI
         try clear dJ
         try clear dK
         try clear dP
         try clear dQ
         try clear dR
         try clear dS
         try clear dT
         try clear dU
         try clear d1
         try clear d2
         try clear d3
         try clear d4
         try clear d9
         try clear ea
         try clear eb
         try clear ec
         try clear ed
         try clear ee
         try clear el
         try clear em
         try clear en
         try clear eo
         try clear eB
         try clear eC
         try clear eD
         try clear eE
         try clear aI
         try clear aJ
         try clear aK
         try clear aL
         try clear aM
         try clear aN
         try clear aW
         try clear aX
         try clear aY
         try clear aZ
         try clear a4
         try clear a5
         try clear bc
         try clear bd
         try clear be
         try clear bf
         try clear bg
         try clear bh
         try clear bm
         try clear bn
         try clear bo
         try clear bp
         try clear bw
         try clear bx
         try clear bz
         try clear bA
         try clear bB
         try clear bC
         try clear bH
         try clear bI
         try clear bJ
         try clear bK
         try clear bR
         try clear bS
         try clear bT
         try clear bU
         try clear bV
         try clear bW
         try clear b1
         try clear b2
         try clear b3
         try clear b4
         try clear cb
         try clear cc
         try clear cd
         try clear ce
         try clear cf
         try clear cg
         try clear cl
         try clear cm
         try clear cn
         try clear co
         try clear cw
         try clear cx
         try clear cy
         try clear cz
         try clear cA
         try clear cB
         try clear cG
         try clear cH
         try clear cI
         try clear cJ
         try clear cQ
         try clear cR
         try clear cS
         try clear cT
         try clear cU
         try clear cV
         try clear c0
         try clear c7
         try clear c8
         try clear c9
         try clear dg
         try clear dh
         try clear di
         try clear dj
         try clear dk
         try clear dl
         try clear dr
         try clear ds
         try clear dt
         try clear du
         try clear dB
         try clear dC
         try clear dD
         try clear dE
         try clear dF
         try clear dG
         try clear dL
         try clear dM
         try clear dN
         try clear dO
         try clear dV
         try clear dW
         try clear dX
         try clear dY
         try clear dZ
         try clear d0
         try clear d5
         try clear d6
         try clear d7
         try clear d8
         try clear ef
         try clear eg
         try clear eh
         try clear ei
         try clear ej
         try clear ek
         try clear ep
         try clear eq
         try clear er
         try clear es
         try clear eF
         try clear eG
         try clear eH
         try clear eI
         try clear hx239_0
         try clear hx239_1
         try clear hx239_2
         try clear hx239_3
         try clear hx239_4
         try clear hx239_5
         try clear hx243_0
         try clear hx243_1
         try clear hx243_2
         try clear hx243_3
         try clear hx243_4
         try clear hx243_5
         try clear p2
         try clear p23
         try clear p239
         try clear p24
         try clear p243
         try clear p6
         try clear q2
         try clear q23
         try clear q239
         try clear q24
         try clear q243
         obtain ⟨al, rfl, HA, eK, ac, ag, HB⟩ := hrel
         cases gk with
         | zero => exact absurd HA.out (by simp [portreeveref04_open.l1])
         | succ k3 =>
          have H := HA.out
          clear HA
          simp only [portreeveref04_open.l1] at H
          by_cases c59 : al < ab
          ·rw [if_pos c59] at H
           have eV : decide (al < ab) = true := decide_eq_true c59
           clear c59
           have HC60 := Aside0.mk H
           clear H
           go_upto_region 12 with (fail)
           repeat (go_quiet (fail); go_upto_region 12 with (fail))
           go_cut [94] (fun v94 wc => ∃ (kq : Nat) (aO : Bool), v94 = .bool aO ∧ Aside0 (portreeveref04_open.j3 kq ab al aO ad aa ae af ((rd_T51 aa ab).f0) ((rd_T51 aa ab).f1) ((rd_T51 aa ab).f2) ((rd_T51 aa ab).f3) ((rd_T51 aa ab).f4) ((rd_T51 aa ab).f5) = some r) ∧ Aside0 (kq ≤ k3) ∧ Aside0 (wc.heap[ak]? = some (.cells #[.int .i64 ad, (.slice (some am) aa.length ap), (.slice aq ae.length ar), (.slice au af.length av)] 46 (0, 0))) ∧ Aside0 (wc.heap[ao]? = some (.cells #[.int .i64 ((rd_T51 aa ab).f0), .int .i64 ((rd_T51 aa ab).f1), .int .u32 ((rd_T51 aa ab).f2), .string ((rd_T51 aa ab).f3), .int .u64 ((rd_T51 aa ab).f4), .int .u64 ((rd_T51 aa ab).f5)] 51 (0, 0))) ∧ Aside0 (Below w.heap.size w wc))
           case first =>
            have H := HC60.out
            clear HC60
            by_cases c61 : 0 ≤ al
            ·rw [if_pos c61] at H
             have eO : decide (0 ≤ al) = true := decide_eq_true c61
             clear c61
             (first | rw [eO] | (simp only [i64_w, i32_w]; rw [eO]) | skip)
             by_cases c62 : al < (aa.length : Int)
             ·rw [if_pos c62] at H
              have fH : decide (al < (aa.length : Int)) = true := decide_eq_true c62
              clear c62
              by_cases c63 : ((rd_T51 aa al).f1) = ((rd_T51 aa ab).f1)
              ·rw [if_pos c63] at H
               have eW : (((rd_T51 aa al).f1) == ((rd_T51 aa ab).f1)) = true := beq_iff_eq.mpr c63
               have eX : (((rd_T51 aa al).f1) != ((rd_T51 aa ab).f1)) = false := bne_eq_false_iff_eq.mpr c63
               clear c63
               have H' := Aside0.mk H
               clear H
               have gq := ah.out
               have gr := ai.out
               obtain ⟨eY, eZ, e0, e1, e2, e3, e4, e5⟩ := bk4 ac.out
               have p244 : 0 ≤ (al : Int) := of_decide_eq_true (by first | (with_reducible assumption) | assumption)
               have q244 : al < (aa.length : Int) := of_decide_eq_true (by first | (with_reducible assumption) | assumption)
               obtain ⟨eP, e244, hx244_0, hx244_1, hx244_2, hx244_3, hx244_4, hx244_5⟩ := at_T51 ay.out al p244 q244
               obtain rfl : am = eP := (by injection e244)
               replace hx244_0 := (HB.out.cell (World.block_lt_of_cell? w _ hx244_0)).trans hx244_0
               replace hx244_1 := (HB.out.cell (World.block_lt_of_cell? w _ hx244_1)).trans hx244_1
               replace hx244_2 := (HB.out.cell (World.block_lt_of_cell? w _ hx244_2)).trans hx244_2
               replace hx244_3 := (HB.out.cell (World.block_lt_of_cell? w _ hx244_3)).trans hx244_3
               replace hx244_4 := (HB.out.cell (World.block_lt_of_cell? w _ hx244_4)).trans hx244_4
               replace hx244_5 := (HB.out.cell (World.block_lt_of_cell? w _ hx244_5)).trans hx244_5
               replace p244 := eq_true p244
               replace q244 := eq_true q244
               obtain ⟨e6, e7, e8, e9, fa, fb, fc, fd, fe, ff, fg, fh⟩ := bk6 ag.out
               go_wp2
               repeat (go_quiet (fail); try go_wp2)
               go_meet
               case rel => exact ⟨_, (true), (by first | rfl | (simp; done) | (simp [*]; done)), H', ⟨by have := ax.out; have := eJ.out; have := eK.out; first | omega | exact Nat.le_refl _⟩, ⟨zB ac.out⟩, ⟨zB ag.out⟩, ⟨by repeat (first | (with_reducible first | exact HB.out | apply pA | apply pN | apply pD | refine pS ?_ aj.out | refine pS ?_ an.out) | exact HB.out)⟩⟩
              ·rw [if_neg c63] at H
               have eW : (((rd_T51 aa al).f1) == ((rd_T51 aa ab).f1)) = false := beq_eq_false_iff_ne.mpr c63
               have eX : (((rd_T51 aa al).f1) != ((rd_T51 aa ab).f1)) = true := bne_iff_ne.mpr c63
               have H' := Aside0.mk H
               clear H
               have gs := ah.out
               have gt := ai.out
               obtain ⟨fi, fj, fk, fl, fm, fn, fo, fp⟩ := bk4 ac.out
               have p244 : 0 ≤ (al : Int) := of_decide_eq_true (by first | (with_reducible assumption) | assumption)
               have q244 : al < (aa.length : Int) := of_decide_eq_true (by first | (with_reducible assumption) | assumption)
               obtain ⟨eP, e244, hx244_0, hx244_1, hx244_2, hx244_3, hx244_4, hx244_5⟩ := at_T51 ay.out al p244 q244
               obtain rfl : am = eP := (by injection e244)
               replace hx244_0 := (HB.out.cell (World.block_lt_of_cell? w _ hx244_0)).trans hx244_0
               replace hx244_1 := (HB.out.cell (World.block_lt_of_cell? w _ hx244_1)).trans hx244_1
               replace hx244_2 := (HB.out.cell (World.block_lt_of_cell? w _ hx244_2)).trans hx244_2
               replace hx244_3 := (HB.out.cell (World.block_lt_of_cell? w _ hx244_3)).trans hx244_3
               replace hx244_4 := (HB.out.cell (World.block_lt_of_cell? w _ hx244_4)).trans hx244_4
               replace hx244_5 := (HB.out.cell (World.block_lt_of_cell? w _ hx244_5)).trans hx244_5
               replace p244 := eq_true p244
               replace q244 := eq_true q244
               obtain ⟨fq, fr, fs, ft, fu, fv, fw, fx, fy, fz, fA, fD⟩ := bk6 ag.out
               have p245 : 0 ≤ (al : Int) := of_decide_eq_true (by first | (with_reducible assumption) | assumption)
               have q245 : al < (aa.length : Int) := of_decide_eq_true (by first | (with_reducible assumption) | assumption)
               obtain ⟨fI, e245, hx245_0, hx245_1, hx245_2, hx245_3, hx245_4, hx245_5⟩ := at_T51 ay.out al p245 q245
               obtain rfl : am = fI := (by injection e245)
               replace hx245_0 := (HB.out.cell (World.block_lt_of_cell? w _ hx245_0)).trans hx245_0
               replace hx245_1 := (HB.out.cell (World.block_lt_of_cell? w _ hx245_1)).trans hx245_1
               replace hx245_2 := (HB.out.cell (World.block_lt_of_cell? w _ hx245_2)).trans hx245_2
               replace hx245_3 := (HB.out.cell (World.block_lt_of_cell? w _ hx245_3)).trans hx245_3
               replace hx245_4 := (HB.out.cell (World.block_lt_of_cell? w _ hx245_4)).trans hx245_4
               replace hx245_5 := (HB.out.cell (World.block_lt_of_cell? w _ hx245_5)).trans hx245_5
               replace p245 := eq_true p245
               replace q245 := eq_true q245
               go_wp2
               repeat (go_quiet (fail); try go_wp2)
               go_meet
               case rel => exact ⟨_, ((((rd_T51 aa al).f2) == ((rd_T51 aa ab).f2))), (by first | rfl | (simp; done) | (simp [*]; done)), H', ⟨by have := ax.out; have := eJ.out; have := eK.out; first | omega | exact Nat.le_refl _⟩, ⟨zB ac.out⟩, ⟨zB ag.out⟩, ⟨by repeat (first | (with_reducible first | exact HB.out | apply pA | apply pN | apply pD | refine pS ?_ aj.out | refine pS ?_ an.out) | exact HB.out)⟩⟩
             ·rw [if_neg c62] at H
              exact absurd H (by simp)
            ·rw [if_neg c61] at H
             exact absurd H (by simp)
           case rest =>
            clear HC60
            try clear c1
            try clear c2
            try clear p2
            try clear q2
            try clear hx2
            try clear c3
            try clear eL
            try clear c4
            try clear eQ
            try clear c5
            try clear c6
            try clear p6
            try clear c10
            try clear c13
            try clear aA
            try clear c14
            try clear c16
            try clear eu
            try clear c17
            try clear c20
            try clear ev
            try clear c22
            try clear eM
            try clear c23
            try clear eN
            try clear p23
            try clear q23
            try clear hx23
            try clear c24
            try clear ew
            try clear p24
            try clear q24
            try clear hx24
            try clear c25
            try clear c28
            try clear ex
            try clear c29
            try clear c32
            try clear ey
            try clear c33
            try clear c36
            try clear c37
            try clear c40
            try clear c43
            try clear ez
            try clear c44
            try clear c47
            try clear eA
            try clear c48
            try clear c51
            try clear c52
            try clear c55
            try clear c58
            try clear c59
            try clear eV
            try clear c61
            try clear eO
            try clear c62
            try clear fH
            try clear c63
            try clear eW
            try clear eX
            try clear c64
            try clear c67
            try clear aC
            try clear aD
            try clear aE
            try clear aF
            try clear aG
            try clear aH
            try clear aQ
            try clear aR
            try clear aS
            try clear aT
            try clear aU
            try clear aV
            try clear a6
            try clear a7
            try clear a8
            try clear a9
            try clear ba
            try clear bb
            try clear bi
            try clear bj
            try clear bk
            try clear bl
            try clear bq
            try clear br
            try clear bs
            try clear bt
            try clear bu
            try clear bv
            try clear bD
            try clear bE
            try clear bF
            try clear bG
            try clear bL
            try clear bM
            try clear bN
            try clear bO
            try clear bP
            try clear bQ
            try clear bX
            try clear bY
            try clear bZ
            try clear b0
            try clear b5
            try clear b6
            try clear b7
            try clear b8
            try clear b9
            try clear ca
            try clear ch
            try clear ci
            try clear cj
            try clear ck
            try clear cp
            try clear cq
            try clear cr
            try clear ct
            try clear cu
            try clear cv
            try clear cC
            try clear cD
            try clear cE
            try clear cF
            try clear cK
            try clear cL
            try clear cM
            try clear cN
            try clear cO
            try clear cP
            try clear cW
            try clear cX
            try clear cY
            try clear cZ
            try clear da
            try clear db
            try clear dc
            try clear dd
            try clear de
            try clear df
            try clear dm
            try clear dn
            try clear dp
            try clear dq
            try clear dv
            try clear dw
            try clear dx
            try clear dy
            try clear dz
            try clear dA
            try clear dH
            try clear dI
            try clear dJ
            try clear dK
            try clear dP
            try clear dQ
            try clear dR
            try clear dS
            try clear dT
            try clear dU
            try clear d1
            try clear d2
            try clear d3
            try clear d4
            try clear d9
            try clear ea
            try clear eb
            try clear ec
            try clear ed
            try clear ee
            try clear el
            try clear em
            try clear en
            try clear eo
            try clear eY
            try clear eZ
            try clear e0
            try clear e1
            try clear e6
            try clear e7
            try clear e8
            try clear e9
            try clear fa
            try clear fb
            try clear fi
            try clear fj
            try clear fk
            try clear fl
            try clear fq
            try clear fr
            try clear fs
            try clear ft
            try clear fu
            try clear fv
            try clear eB
            try clear eC
            try clear eD
            try clear eE
            try clear aI
            try clear aJ
            try clear aK
            try clear aL
            try clear aM
            try clear aN
            try clear aW
            try clear aX
            try clear aY
            try clear aZ
            try clear a4
            try clear a5
            try clear bc
            try clear bd
            try clear be
            try clear bf
            try clear bg
            try clear bh
            try clear bm
            try clear bn
            try clear bo
            try clear bp
            try clear bw
            try clear bx
            try clear bz
            try clear bA
            try clear bB
            try clear bC
            try clear bH
            try clear bI
            try clear bJ
            try clear bK
            try clear bR
            try clear bS
            try clear bT
            try clear bU
            try clear bV
            try clear bW
            try clear b1
            try clear b2
            try clear b3
            try clear b4
            try clear cb
            try clear cc
            try clear cd
            try clear ce
            try clear cf
            try clear cg
            try clear cl
            try clear cm
            try clear cn
            try clear co
            try clear cw
            try clear cx
            try clear cy
            try clear cz
            try clear cA
            try clear cB
            try clear cG
            try clear cH
            try clear cI
            try clear cJ
            try clear cQ
            try clear cR
            try clear cS
            try clear cT
            try clear cU
            try clear cV
            try clear c0
            try clear c7
            try clear c8
            try clear c9
            try clear dg
            try clear dh
            try clear di
            try clear dj
            try clear dk
            try clear dl
            try clear dr
            try clear ds
            try clear dt
            try clear du
            try clear dB
            try clear dC
            try clear dD
            try clear dE
            try clear dF
            try clear dG
            try clear dL
            try clear dM
            try clear dN
            try clear dO
            try clear dV
            try clear dW
            try clear dX
            try clear dY
            try clear dZ
            try clear d0
            try clear d5
            try clear d6
            try clear d7
            try clear d8
            try clear ef
            try clear eg
            try clear eh
            try clear ei
            try clear ej
            try clear ek
            try clear ep
            try clear eq
            try clear er
            try clear es
            try clear e2
            try clear e3
            try clear e4
            try clear e5
            try clear fc
            try clear fd
            try clear fe
            try clear ff
            try clear fg
            try clear fh
            try clear fm
            try clear fn
            try clear fo
            try clear fp
            try clear fw
            try clear fx
            try clear fy
            try clear fz
            try clear fA
            try clear fD
            try clear eF
            try clear eG
            try clear eH
            try clear eI
            try clear hx239_0
            try clear hx239_1
            try clear hx239_2
            try clear hx239_3
            try clear hx239_4
            try clear hx239_5
            try clear hx243_0
            try clear hx243_1
            try clear hx243_2
            try clear hx243_3
            try clear hx243_4
            try clear hx243_5
            try clear hx244_0
            try clear hx244_1
            try clear hx244_2
            try clear hx244_3
            try clear hx244_4
            try clear hx244_5
            try clear hx245_0
            try clear hx245_1
            try clear hx245_2
            try clear hx245_3
            try clear hx245_4
            try clear hx245_5
            try clear p2
            try clear p23
            try clear p239
            try clear p24
            try clear p243
            try clear p244
            try clear p245
            try clear p6
            try clear q2
            try clear q23
            try clear q239
            try clear q24
            try clear q243
            try clear q244
            try clear q245
            obtain ⟨kq, aO, rfl, HA, fF, ac, ag, HB⟩ := hcut
            cases kq with
            | zero => exact absurd HA.out (by simp [portreeveref04_open.j3])
            | succ fG =>
             have H := HA.out
             clear HA
             simp only [portreeveref04_open.j3] at H
             by_cases c70 : aO = true
             ·subst c70
              have H1 : (some false) = some r := by rw [if_pos rfl] at H; exact H
              clear H
              have H := H1
              clear H1
              obtain rfl := Option.some.inj H
              go_wp2
              repeat (go_quiet (fail); try go_wp2)
              go_ret
              exact ⟨by first | rfl | (simp [errW_none, errW_some] <;> rfl) | (simp [*, errW_none, errW_some] <;> rfl), by repeat (first | (with_reducible first | exact HB.out | apply pA | apply pN | apply pD | refine pS ?_ aj.out | refine pS ?_ an.out) | exact HB.out)⟩
             ·replace c70 := Bool.eq_false_iff.mpr c70
              subst c70
              have H1 : (portreeveref04_open.l1 fG ab (wrap64 (al + 1)) ad aa ae af ((rd_T51 aa ab).f0) ((rd_T51 aa ab).f1) ((rd_T51 aa ab).f2) ((rd_T51 aa ab).f3) ((rd_T51 aa ab).f4) ((rd_T51 aa ab).f5)) = some r := by rw [if_neg (show ¬ (false = true) by decide)] at H; exact H
              clear H
              have H := H1
              clear H1
              have H' := Aside0.mk H
              clear H
              go_wp2
              repeat (go_quiet (fail); try go_wp2)
              go_roundg fG
              case measure => have := ax.out; have := eJ.out; have := eK.out; have := fF.out; omega
              case rel => exact ⟨(wrap64 (al + 1)), (by first | rfl | (simp; done) | (simp [*]; done)), H', ⟨by have := ax.out; have := eJ.out; have := eK.out; have := fF.out; omega⟩, ⟨zB ac.out⟩, ⟨zB ag.out⟩, ⟨by repeat (first | (with_reducible first | exact HB.out | apply pA | apply pN | apply pD | refine pS ?_ aj.out | refine pS ?_ an.out) | exact HB.out)⟩⟩
          ·rw [if_neg c59] at H
           have eV : decide (al < ab) = false := decide_eq_false c59
           clear c59
           have H' := Aside0.mk H
           clear H
           go_wp2
           repeat (go_quiet (fail); try go_wp2)
           go_roundg k3
           case measure => have := ax.out; have := eJ.out; have := eK.out; omega
           case rel => exact ⟨(wrap64 (ab + 1)), (by first | rfl | (simp; done) | (simp [*]; done)), H', ⟨by have := ax.out; have := eJ.out; have := eK.out; omega⟩, ⟨zB ac.out⟩, ⟨by repeat (first | (with_reducible first | exact HB.out | apply pA | apply pN | apply pD | refine pS ?_ aj.out | refine pS ?_ an.out) | exact HB.out)⟩⟩
    ·rw [if_neg c4] at H
     exact absurd H (by simp)
   ·rw [if_neg c3] at H
    have eL : decide (ab < (aa.length : Int)) = false := decide_eq_false c3
    clear c3
    obtain rfl := Option.some.inj H
    obtain ⟨fL, fM, fN, fO, fP, fQ, fS, fT⟩ := bk4 ac.out
    go_wp2
    repeat (go_quiet (fail); try go_wp2)
    go_ret
    exact ⟨by first | rfl | (simp [errW_none, errW_some] <;> rfl) | (simp [*, errW_none, errW_some] <;> rfl), by repeat (first | (with_reducible first | exact HB.out | apply pA | apply pN | apply pD | refine pS ?_ aj.out) | exact HB.out)⟩

end Go.Proofs.Ytlimlbhhbjaljaa.Q

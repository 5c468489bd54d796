-- written by this session's own program (wip/tools/myprint.py), over the kit's print
import Derived.Test.YtlimlbhhbjaljaaQx0
namespace Go.Proofs.Ytlimlbhhbjaljaa.Q
open Go.RowKit Go.Proofs.YtlimlbhhbjaljaaW.PrintWords Go.Proofs.YtlimlbhhbjaljaaW.PrintLast Go.Proofs.YtlimlbhhbjaljaaW.PrintMore
open Go.Proofs.YtlimlbhhbjaljaaV
attribute [local go_sem] max2_int min2_int max_two min_two max_three min_three max_four min_four   -- for this text's walks alone
set_option linter.unusedVariables false
set_option linter.unusedSimpArgs false

/-! ### portreeveref04_last: function 30 -/
def portreeveref04_last.l0 : Nat → Int → Int → Int → List (S51) → List (S56) → List (S68) → Option (Int)
 | 0, _, _, _, _, _, _ => none
 | k + 1, x1, x7, x247000, x247001, x247002, x247003 => if x7 ≥ 0 then (if 0 ≤ x7 then (if x7 < (x247002.length : Int) then (if ((rd_T56 x247002 x7).f1) = x1 then (some x7) else (portreeveref04_last.l0 k x1 (wrap64 (x7 - 1)) x247000 x247001 x247002 x247003)) else (none)) else (none)) else (some (-1))
def portreeveref04_last.f (k : Nat) (a0_0 : Int) (l0_1 : List (S51)) (l0_2 : List (S56)) (l0_3 : List (S68)) (a1 : Int) (a2 : Int) : Option (Int) := portreeveref04_last.l0 k a1 (wrap64 (a2 - 1)) a0_0 l0_1 l0_2 l0_3
theorem portreeveref04_last.mono_l : ∀ k, (∀ y0 y1 y2 y3 y4 y5, LeO (portreeveref04_last.l0 k y0 y1 y2 y3 y4 y5) (portreeveref04_last.l0 (k + 1) y0 y1 y2 y3 y4 y5))
 | 0 => fun _ _ _ _ _ _ r h => by simp [portreeveref04_last.l0] at h
 | k + 1 => by
  have ih0 := portreeveref04_last.mono_l k
  ·intro y0 y1 y2 y3 y4 y5
   unfold portreeveref04_last.l0
   repeat' first
   | (with_reducible exact ih0 _ _ _ _ _ _)
   | (with_reducible exact LeO.refl _)
   | (with_reducible exact LeO.none _)
   | (with_reducible refine LeO.ite ?_ ?_)
   | (with_reducible refine LeO.bind ?_ (fun _ => ?_))
   | exact ih0 _ _ _ _ _ _
   | exact LeO.none _
   | refine LeO.ite ?_ ?_
   | refine LeO.bind ?_ (fun _ => ?_)
theorem portreeveref04_last.mono : ∀ a0 a1 a2 a3 a4 a5 k, LeO (portreeveref04_last.f k a0 a1 a2 a3 a4 a5) (portreeveref04_last.f (k + 1) a0 a1 a2 a3 a4 a5) := by
 intro a0 a1 a2 a3 a4 a5 k
 have ih0 := portreeveref04_last.mono_l k
 unfold portreeveref04_last.f
 repeat' first
   | (with_reducible exact ih0 _ _ _ _ _ _)
   | (with_reducible exact LeO.refl _)
   | (with_reducible exact LeO.none _)
   | (with_reducible refine LeO.ite ?_ ?_)
   | (with_reducible refine LeO.bind ?_ (fun _ => ?_))
   | exact ih0 _ _ _ _ _ _
   | exact LeO.none _
   | refine LeO.ite ?_ ?_
   | refine LeO.bind ?_ (fun _ => ?_)
set_option maxHeartbeats 8000000 in
set_option maxRecDepth 100000 in
theorem portreeveref04_last.calls (k : Nat) (af : Int) (ah : Option Addr) (ai : Nat) (ac : List (S51)) (aj : Option Addr) (ak : Nat) (ab : List (S56)) (al : Option Addr) (am : Nat) (ad : List (S68)) (a1 : Int) (a2 : Int) (r : Int) (w : World) (hr0_1 : Kd.C k51 w ah ac.length ac) (hc0_1 : ac.length ≤ ai) (hr0_2 : Kd.C k56 w aj ab.length ab) (hc0_2 : ab.length ≤ ak) (hr0_3 : Kd.C k68 w al ad.length ad) (hc0_3 : ad.length ≤ am) (h : portreeveref04_last.f k af ac ab ad a1 a2 = some r) :
  Calls Try.prog 30 #[.agg #[.int .i64 af, .slice ah ac.length ai, .slice aj ab.length ak, .slice al ad.length am], .int .i64 a1, .int .i64 a2] w fun e w' => e = .returned (.int .i64 r) ∧ Below w.heap.size w w' := by
 have hu46 := Try.underlying46
 have hu56 := Try.underlying56
 have aM := Aside0.mk hr0_1
 have HC0_1 := Aside0.mk hc0_1
 clear hr0_1 hc0_1
 have ao := Aside0.mk hr0_2
 have HC0_2 := Aside0.mk hc0_2
 clear hr0_2 hc0_2
 have aN := Aside0.mk hr0_3
 have HC0_3 := Aside0.mk hc0_3
 clear hr0_3 hc0_3
 have HB := Aside0.mk (Below.refl w.heap.size w)
 have H : (portreeveref04_last.l0 k a1 (wrap64 (a2 - 1)) af ac ab ad) = some r := h
 clear h
 have H' := Aside0.mk H
 clear H
 go_enter Try.func30, Try.ntmps30
 go_wp2_with (first | ((with_reducible refine gate_dst (N := 3) rfl ?_); refine box_event ?hg (N := 3) ?hd (cs := #[.int .i64 af, .slice ah ac.length ai, .slice aj ab.length ak, .slice al ad.length am]) (t := 46) ?hr ?_; (case hd => rfl); (case hg => rfl); (case hr => first | (go_simp; done) | (go_simp; rfl)); intro an hg w4 hbox hb; have n0_ := Aside0.mk (below_step (zH HB.out) hb); have n1_ := Aside0.mk (hbox); have n2_ := Aside0.mk ((by rw [hg]; exact (below_size (zH HB.out)) : w.heap.size ≤ an)); have n3_ := Aside0.mk ((by rw [hg]; exact (below_size (zH HB.out)) : w.heap.size ≤ an)); clear HB; have HB := n0_; have ae := n1_; have aO := n2_; have ag := n3_; clear n0_ n1_ n2_ n3_; clear hb hbox hg))
 go_loopg [7] k (fun kq v7 w' => ∃ (aa : Int), v7 = .int .i64 aa ∧ Aside0 (portreeveref04_last.l0 kq a1 aa af ac ab ad = some r) ∧ Aside0 (kq ≤ k) ∧ Aside0 (w'.heap[an]? = some (.cells #[.int .i64 af, (.slice ah ac.length ai), (.slice aj ab.length ak), (.slice al ad.length am)] 46 (0, 0))) ∧ Aside0 (Below w.heap.size w w'))
 case atStart => exact ⟨(wrap64 (a2 - 1)), (by first | rfl | (simp; done) | (simp [*]; done)), H', ⟨Nat.le_refl _⟩, ⟨zB ae.out⟩, ⟨by repeat (first | (with_reducible first | exact HB.out | apply pA | apply pN | apply pD | refine pS ?_ ag.out) | exact HB.out)⟩⟩
 case round =>
  clear H'
  try clear p2
  try clear c3
  obtain ⟨aa, rfl, HA, aq, ae, HB⟩ := hrel
  cases gk with
  | zero => exact absurd HA.out (by simp [portreeveref04_last.l0])
  | succ k1 =>
   have H := HA.out
   clear HA
   simp only [portreeveref04_last.l0] at H
   by_cases c5 : aa ≥ 0
   ·rw [if_pos c5] at H
    have ar : decide (0 ≤ aa) = true := decide_eq_true c5
    clear c5
    by_cases c6 : 0 ≤ aa
    ·rw [if_pos c6] at H
     have aP : decide (0 ≤ aa) = true := decide_eq_true c6
     clear c6
     by_cases c7 : aa < (ab.length : Int)
     ·rw [if_pos c7] at H
      have aQ : decide (aa < (ab.length : Int)) = true := decide_eq_true c7
      clear c7
      by_cases c8 : ((rd_T56 ab aa).f1) = a1
      ·rw [if_pos c8] at H
       have au : (((rd_T56 ab aa).f1) == a1) = true := beq_iff_eq.mpr c8
       have av : (((rd_T56 ab aa).f1) != a1) = false := bne_eq_false_iff_eq.mpr c8
       clear c8
       obtain rfl := Option.some.inj H
       obtain ⟨aE, aF, aG, aH, aI, aJ, aK, aL⟩ := bk4 ae.out
       have p247 : 0 ≤ (aa : Int) := of_decide_eq_true (by first | (with_reducible assumption) | assumption)
       have q247 : aa < (ab.length : Int) := of_decide_eq_true (by first | (with_reducible assumption) | assumption)
       obtain ⟨ap, e247, hx247_0, hx247_1, hx247_2, hx247_3, hx247_4⟩ := at_T56 ao.out aa p247 q247
       cases e247
       replace hx247_0 := (HB.out.cell (World.block_lt_of_cell? w _ hx247_0)).trans hx247_0
       replace hx247_1 := (HB.out.cell (World.block_lt_of_cell? w _ hx247_1)).trans hx247_1
       replace hx247_2 := (HB.out.cell (World.block_lt_of_cell? w _ hx247_2)).trans hx247_2
       replace hx247_3 := (HB.out.cell (World.block_lt_of_cell? w _ hx247_3)).trans hx247_3
       replace hx247_4 := (HB.out.cell (World.block_lt_of_cell? w _ hx247_4)).trans hx247_4
       replace p247 := eq_true p247
       replace q247 := eq_true q247
       go_wp2
       go_ret
       exact ⟨by first | rfl | (simp [errW_none, errW_some] <;> rfl) | (simp [*, errW_none, errW_some] <;> rfl), by repeat (first | (with_reducible first | exact HB.out | apply pA | apply pN | apply pD | refine pS ?_ ag.out) | exact HB.out)⟩
      ·rw [if_neg c8] at H
       have au : (((rd_T56 ab aa).f1) == a1) = false := beq_eq_false_iff_ne.mpr c8
       have av : (((rd_T56 ab aa).f1) != a1) = true := bne_iff_ne.mpr c8
       have H' := Aside0.mk H
       clear H
       obtain ⟨aw, ax, ay, az, aA, aB, aC, aD⟩ := bk4 ae.out
       have p247 : 0 ≤ (aa : Int) := of_decide_eq_true (by first | (with_reducible assumption) | assumption)
       have q247 : aa < (ab.length : Int) := of_decide_eq_true (by first | (with_reducible assumption) | assumption)
       obtain ⟨ap, e247, hx247_0, hx247_1, hx247_2, hx247_3, hx247_4⟩ := at_T56 ao.out aa p247 q247
       cases e247
       replace hx247_0 := (HB.out.cell (World.block_lt_of_cell? w _ hx247_0)).trans hx247_0
       replace hx247_1 := (HB.out.cell (World.block_lt_of_cell? w _ hx247_1)).trans hx247_1
       replace hx247_2 := (HB.out.cell (World.block_lt_of_cell? w _ hx247_2)).trans hx247_2
       replace hx247_3 := (HB.out.cell (World.block_lt_of_cell? w _ hx247_3)).trans hx247_3
       replace hx247_4 := (HB.out.cell (World.block_lt_of_cell? w _ hx247_4)).trans hx247_4
       replace p247 := eq_true p247
       replace q247 := eq_true q247
       go_wp2
       go_roundg k1
       case measure => have := aq.out; omega
       case rel => exact ⟨(wrap64 (aa - 1)), (by first | rfl | (simp; done) | (simp [*]; done)), H', ⟨by have := aq.out; omega⟩, ⟨zB ae.out⟩, ⟨by repeat (first | (with_reducible first | exact HB.out | apply pA | apply pN | apply pD | refine pS ?_ ag.out) | exact HB.out)⟩⟩
     ·rw [if_neg c7] at H
      exact absurd H (by simp)
    ·rw [if_neg c6] at H
     exact absurd H (by simp)
   ·rw [if_neg c5] at H
    have ar : decide (0 ≤ aa) = false := decide_eq_false c5
    clear c5
    obtain rfl := Option.some.inj H
    go_wp2
    go_ret
    exact ⟨by first | rfl | (simp [errW_none, errW_some] <;> rfl) | (simp [*, errW_none, errW_some] <;> rfl), by repeat (first | (with_reducible first | exact HB.out | apply pA | apply pN | apply pD | refine pS ?_ ag.out) | exact HB.out)⟩

end Go.Proofs.Ytlimlbhhbjaljaa.Q

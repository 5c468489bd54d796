-- written by this session's own program (wip/tools/myprint.py), over the kit's print
import Derived.Test.YtlimlbhhbjaljaaQx0
namespace Go.Proofs.Ytlimlbhhbjaljaa.Q
open Go.RowKit Go.Proofs.YtlimlbhhbjaljaaW.PrintWords Go.Proofs.YtlimlbhhbjaljaaW.PrintLast Go.Proofs.YtlimlbhhbjaljaaW.PrintMore
open Go.Proofs.YtlimlbhhbjaljaaV
attribute [local go_sem] max2_int min2_int max_two min_two max_three min_three max_four min_four   -- for this text's walks alone
set_option linter.unusedVariables false
set_option linter.unusedSimpArgs false

/-! ### portreeveref04_Of: function 24 -/
def portreeveref04_Of.l0 : Nat → Int → Int → Int → List (S51) → List (S56) → List (S68) → Option (Int)
 | 0, _, _, _, _, _, _ => none
 | k + 1, x1, x5, x237000, x237001, x237002, x237003 => if x5 < (x237001.length : Int) then (if 0 ≤ x5 then (if ((rd_T51 x237001 x5).f0) = x1 then (some x5) else (portreeveref04_Of.l0 k x1 (wrap64 (x5 + 1)) x237000 x237001 x237002 x237003)) else (none)) else (some (-1))
def portreeveref04_Of.f (k : Nat) (a0_0 : Int) (l0_1 : List (S51)) (l0_2 : List (S56)) (l0_3 : List (S68)) (a1 : Int) : Option (Int) := portreeveref04_Of.l0 k a1 0 a0_0 l0_1 l0_2 l0_3
theorem portreeveref04_Of.mono_l : ∀ k, (∀ y0 y1 y2 y3 y4 y5, LeO (portreeveref04_Of.l0 k y0 y1 y2 y3 y4 y5) (portreeveref04_Of.l0 (k + 1) y0 y1 y2 y3 y4 y5))
 | 0 => fun _ _ _ _ _ _ r h => by simp [portreeveref04_Of.l0] at h
 | k + 1 => by
  have ih0 := portreeveref04_Of.mono_l k
  ·intro y0 y1 y2 y3 y4 y5
   unfold portreeveref04_Of.l0
   repeat' first
   | (with_reducible exact ih0 _ _ _ _ _ _)
   | (with_reducible exact LeO.refl _)
   | (with_reducible exact LeO.none _)
   | (with_reducible refine LeO.ite ?_ ?_)
   | (with_reducible refine LeO.bind ?_ (fun _ => ?_))
   | exact ih0 _ _ _ _ _ _
   | exact LeO.none _
   | refine LeO.ite ?_ ?_
   | refine LeO.bind ?_ (fun _ => ?_)
theorem portreeveref04_Of.mono : ∀ a0 a1 a2 a3 a4 k, LeO (portreeveref04_Of.f k a0 a1 a2 a3 a4) (portreeveref04_Of.f (k + 1) a0 a1 a2 a3 a4) := by
 intro a0 a1 a2 a3 a4 k
 have ih0 := portreeveref04_Of.mono_l k
 unfold portreeveref04_Of.f
 repeat' first
   | (with_reducible exact ih0 _ _ _ _ _ _)
   | (with_reducible exact LeO.refl _)
   | (with_reducible exact LeO.none _)
   | (with_reducible refine LeO.ite ?_ ?_)
   | (with_reducible refine LeO.bind ?_ (fun _ => ?_))
   | exact ih0 _ _ _ _ _ _
   | exact LeO.none _
   | refine LeO.ite ?_ ?_
   | refine LeO.bind ?_ (fun _ => ?_)
set_option maxHeartbeats 8000000 in
set_option maxRecDepth 100000 in
theorem portreeveref04_Of.calls (k : Nat) (af : Int) (ah : Option Addr) (ai : Nat) (ab : List (S51)) (aj : Option Addr) (ak : Nat) (ac : List (S56)) (al : Option Addr) (am : Nat) (ad : List (S68)) (a1 : Int) (r : Int) (w : World) (hr0_1 : Kd.C k51 w ah ab.length ab) (hc0_1 : ab.length ≤ ai) (hr0_2 : Kd.C k56 w aj ac.length ac) (hc0_2 : ac.length ≤ ak) (hr0_3 : Kd.C k68 w al ad.length ad) (hc0_3 : ad.length ≤ am) (h : portreeveref04_Of.f k af ab ac ad a1 = some r) :
  Calls Try.prog 24 #[.agg #[.int .i64 af, .slice ah ab.length ai, .slice aj ac.length ak, .slice al ad.length am], .int .i64 a1] w fun e w' => e = .returned (.int .i64 r) ∧ Below w.heap.size w w' := by
 have hu46 := Try.underlying46
 have hu51 := Try.underlying51
 have ao := Aside0.mk hr0_1
 have HC0_1 := Aside0.mk hc0_1
 clear hr0_1 hc0_1
 have aU := Aside0.mk hr0_2
 have HC0_2 := Aside0.mk hc0_2
 clear hr0_2 hc0_2
 have aV := Aside0.mk hr0_3
 have HC0_3 := Aside0.mk hc0_3
 clear hr0_3 hc0_3
 have HB := Aside0.mk (Below.refl w.heap.size w)
 have H : (portreeveref04_Of.l0 k a1 0 af ab ac ad) = some r := h
 clear h
 have H' := Aside0.mk H
 clear H
 go_enter Try.func24, Try.ntmps24
 go_wp2_with (first | ((with_reducible refine gate_dst (N := 2) rfl ?_); refine box_event ?hg (N := 2) ?hd (cs := #[.int .i64 af, .slice ah ab.length ai, .slice aj ac.length ak, .slice al ad.length am]) (t := 46) ?hr ?_; (case hd => rfl); (case hg => rfl); (case hr => first | (go_simp; done) | (go_simp; rfl)); intro an hg w3 hbox hb; have n0_ := Aside0.mk (below_step (zH HB.out) hb); have n1_ := Aside0.mk (hbox); have n2_ := Aside0.mk ((by rw [hg]; exact (below_size (zH HB.out)) : w.heap.size ≤ an)); have n3_ := Aside0.mk ((by rw [hg]; exact (below_size (zH HB.out)) : w.heap.size ≤ an)); clear HB; have HB := n0_; have ae := n1_; have aW := n2_; have ag := n3_; clear n0_ n1_ n2_ n3_; clear hb hbox hg))
 go_loopg [5] k (fun kq v5 w' => ∃ (aa : Int), v5 = .int .i64 aa ∧ Aside0 (portreeveref04_Of.l0 kq a1 aa af ab ac ad = some r) ∧ Aside0 (kq ≤ k) ∧ Aside0 (w'.heap[an]? = some (.cells #[.int .i64 af, (.slice ah ab.length ai), (.slice aj ac.length ak), (.slice al ad.length am)] 46 (0, 0))) ∧ Aside0 (Below w.heap.size w w'))
 case atStart => exact ⟨(0), (by first | rfl | (simp; done) | (simp [*]; done)), H', ⟨Nat.le_refl _⟩, ⟨zB ae.out⟩, ⟨by repeat (first | (with_reducible first | exact HB.out | apply pA | apply pN | apply pD | refine pS ?_ ag.out) | exact HB.out)⟩⟩
 case round =>
  clear H'
  try clear c2
  try clear p2
  obtain ⟨aa, rfl, HA, aq, ae, HB⟩ := hrel
  cases gk with
  | zero => exact absurd HA.out (by simp [portreeveref04_Of.l0])
  | succ k1 =>
   have H := HA.out
   clear HA
   simp only [portreeveref04_Of.l0] at H
   by_cases c4 : aa < (ab.length : Int)
   ·rw [if_pos c4] at H
    have ar : decide (aa < (ab.length : Int)) = true := decide_eq_true c4
    clear c4
    by_cases c5 : 0 ≤ aa
    ·rw [if_pos c5] at H
     have aX : decide (0 ≤ aa) = true := decide_eq_true c5
     clear c5
     by_cases c6 : ((rd_T51 ab aa).f0) = a1
     ·rw [if_pos c6] at H
      have au : (((rd_T51 ab aa).f0) == a1) = true := beq_iff_eq.mpr c6
      have av : (((rd_T51 ab aa).f0) != a1) = false := bne_eq_false_iff_eq.mpr c6
      clear c6
      obtain rfl := Option.some.inj H
      obtain ⟨aw, ax, ay, az, aA, aB, aC, aD⟩ := bk4 ae.out
      have p237 : 0 ≤ (aa : Int) := of_decide_eq_true (by first | (with_reducible assumption) | assumption)
      have q237 : aa < (ab.length : Int) := of_decide_eq_true (by first | (with_reducible assumption) | assumption)
      obtain ⟨ap, e237, hx237_0, hx237_1, hx237_2, hx237_3, hx237_4, hx237_5⟩ := at_T51 ao.out aa p237 q237
      cases e237
      replace hx237_0 := (HB.out.cell (World.block_lt_of_cell? w _ hx237_0)).trans hx237_0
      replace hx237_1 := (HB.out.cell (World.block_lt_of_cell? w _ hx237_1)).trans hx237_1
      replace hx237_2 := (HB.out.cell (World.block_lt_of_cell? w _ hx237_2)).trans hx237_2
      replace hx237_3 := (HB.out.cell (World.block_lt_of_cell? w _ hx237_3)).trans hx237_3
      replace hx237_4 := (HB.out.cell (World.block_lt_of_cell? w _ hx237_4)).trans hx237_4
      replace hx237_5 := (HB.out.cell (World.block_lt_of_cell? w _ hx237_5)).trans hx237_5
      replace p237 := eq_true p237
      replace q237 := eq_true q237
      go_wp2
      go_ret
      exact ⟨by first | rfl | (simp [errW_none, errW_some] <;> rfl) | (simp [*, errW_none, errW_some] <;> rfl), by repeat (first | (with_reducible first | exact HB.out | apply pA | apply pN | apply pD | refine pS ?_ ag.out) | exact HB.out)⟩
     ·rw [if_neg c6] at H
      have au : (((rd_T51 ab aa).f0) == a1) = false := beq_eq_false_iff_ne.mpr c6
      have av : (((rd_T51 ab aa).f0) != a1) = true := bne_iff_ne.mpr c6
      have H' := Aside0.mk H
      clear H
      obtain ⟨aE, aF, aG, aH, aI, aJ, aK, aL⟩ := bk4 ae.out
      have p237 : 0 ≤ (aa : Int) := of_decide_eq_true (by first | (with_reducible assumption) | assumption)
      have q237 : aa < (ab.length : Int) := of_decide_eq_true (by first | (with_reducible assumption) | assumption)
      obtain ⟨ap, e237, hx237_0, hx237_1, hx237_2, hx237_3, hx237_4, hx237_5⟩ := at_T51 ao.out aa p237 q237
      cases e237
      replace hx237_0 := (HB.out.cell (World.block_lt_of_cell? w _ hx237_0)).trans hx237_0
      replace hx237_1 := (HB.out.cell (World.block_lt_of_cell? w _ hx237_1)).trans hx237_1
      replace hx237_2 := (HB.out.cell (World.block_lt_of_cell? w _ hx237_2)).trans hx237_2
      replace hx237_3 := (HB.out.cell (World.block_lt_of_cell? w _ hx237_3)).trans hx237_3
      replace hx237_4 := (HB.out.cell (World.block_lt_of_cell? w _ hx237_4)).trans hx237_4
      replace hx237_5 := (HB.out.cell (World.block_lt_of_cell? w _ hx237_5)).trans hx237_5
      replace p237 := eq_true p237
      replace q237 := eq_true q237
      go_wp2
      go_roundg k1
      case measure => have := aq.out; omega
      case rel => exact ⟨(wrap64 (aa + 1)), (by first | rfl | (simp; done) | (simp [*]; done)), H', ⟨by have := aq.out; omega⟩, ⟨zB ae.out⟩, ⟨by repeat (first | (with_reducible first | exact HB.out | apply pA | apply pN | apply pD | refine pS ?_ ag.out) | exact HB.out)⟩⟩
    ·rw [if_neg c5] at H
     exact absurd H (by simp)
   ·rw [if_neg c4] at H
    have ar : decide (aa < (ab.length : Int)) = false := decide_eq_false c4
    clear c4
    obtain rfl := Option.some.inj H
    obtain ⟨aM, aN, aO, aP, aQ, aR, aS, aT⟩ := bk4 ae.out
    go_wp2
    go_ret
    exact ⟨by first | rfl | (simp [errW_none, errW_some] <;> rfl) | (simp [*, errW_none, errW_some] <;> rfl), by repeat (first | (with_reducible first | exact HB.out | apply pA | apply pN | apply pD | refine pS ?_ ag.out) | exact HB.out)⟩

/-! ### portreeveref04_name: function 31 -/
def portreeveref04_name.f (a0 : ByteArray) : Option (Bool) := if (a0.size : Int) ≥ 1 then (some (decide ((a0.size : Int) ≤ 16))) else (some false)
set_option maxHeartbeats 8000000 in
set_option maxRecDepth 100000 in
theorem portreeveref04_name.calls (a0 : ByteArray) (r : Bool) (w : World) (h : portreeveref04_name.f a0 = some r) :
    Calls Try.prog 31 #[.string a0] w fun e w' => e = .returned (.bool r) ∧ Drawn0 w w' := by
  have H : (if (a0.size : Int) ≥ 1 then (some (decide ((a0.size : Int) ≤ 16))) else (some false)) = some r := h
  clear h
  by_cases c2 : (a0.size : Int) ≥ 1
  · rw [if_pos c2] at H
    have aa : decide (1 ≤ (a0.size : Int)) = true := decide_eq_true c2
    have ab : decide (1 ≤ a0.size) = true := decide_eq_true (by omega)
    clear c2
    obtain rfl := Option.some.inj H
    go_enter Try.func31, Try.ntmps31
    go_wp2
    go_ret
    exact ⟨by first | rfl | (simp; done) | (simp [*]; done), by repeat (first | exact Drawn0.refl _ | apply Drawn0.step)⟩
  · rw [if_neg c2] at H
    have aa : decide (1 ≤ (a0.size : Int)) = false := decide_eq_false c2
    have ab : decide (1 ≤ a0.size) = false := decide_eq_false (by omega)
    clear c2
    obtain rfl := Option.some.inj H
    go_enter Try.func31, Try.ntmps31
    go_wp2
    go_ret
    exact ⟨by first | rfl | (simp; done) | (simp [*]; done), by repeat (first | exact Drawn0.refl _ | apply Drawn0.step)⟩

/-! ### portreeveref04_pool: function 36 -/
def portreeveref04_pool.f (a0 : Int) : Option (Bool) := if a0 ≥ 167772161 then (some (decide (a0 ≤ 167772166))) else (some false)
set_option maxHeartbeats 8000000 in
set_option maxRecDepth 100000 in
theorem portreeveref04_pool.calls (a0 : Int) (r : Bool) (w : World) (h : portreeveref04_pool.f a0 = some r) :
    Calls Try.prog 36 #[.int .u32 a0] w fun e w' => e = .returned (.bool r) ∧ Drawn0 w w' := by
  have H : (if a0 ≥ 167772161 then (some (decide (a0 ≤ 167772166))) else (some false)) = some r := h
  clear h
  by_cases c2 : a0 ≥ 167772161
  · rw [if_pos c2] at H
    have aa : decide (167772161 ≤ a0) = true := decide_eq_true c2
    clear c2
    obtain rfl := Option.some.inj H
    go_enter Try.func36, Try.ntmps36
    go_wp2
    go_ret
    exact ⟨by first | rfl | (simp; done) | (simp [*]; done), by repeat (first | exact Drawn0.refl _ | apply Drawn0.step)⟩
  · rw [if_neg c2] at H
    have aa : decide (167772161 ≤ a0) = false := decide_eq_false c2
    clear c2
    obtain rfl := Option.some.inj H
    go_enter Try.func36, Try.ntmps36
    go_wp2
    go_ret
    exact ⟨by first | rfl | (simp; done) | (simp [*]; done), by repeat (first | exact Drawn0.refl _ | apply Drawn0.step)⟩

end Go.Proofs.Ytlimlbhhbjaljaa.Q

-- written by this session's own program (wip/tools/myprint.py), over the kit's print
import Derived.Test.YtocjadhpaecpaaaQx0
import Derived.Test.YtocjadhpaecpaaaQx6
import Derived.Test.YtocjadhpaecpaaaQx7
import Derived.Test.YtocjadhpaecpaaaQx9
namespace Go.Proofs.Ytocjadhpaecpaaa.Q
open Go.RowKit Go.Proofs.YtocjadhpaecpaaaW.PrintWords Go.Proofs.YtocjadhpaecpaaaW.PrintLast Go.Proofs.YtocjadhpaecpaaaW.PrintMore
open Go.Proofs.YtocjadhpaecpaaaV
attribute [local go_sem] max2_int min2_int max_two min_two max_three min_three max_four min_four   -- for this text's walks alone
set_option linter.unusedVariables false
set_option linter.unusedSimpArgs false

/-! ### gate_Verdict: function 11 -/
mutual
def gate_Verdict.j0 : Nat → ByteArray → Bool → Int → Int → Int → Bool → Option (Bool × (List (S41)))
 | 0, _, _, _, _, _, _ => none
 | k + 1, x1, x3, x4, x12, x13, x20 => if x20 = true then (some (false, ([] : List (S41)))) else (if x3 = true then (gate_Verdict.j1 k x1 x3 x4 x13 (x12 == 0)) else (gate_Verdict.j1 k x1 x3 x4 x13 false))
def gate_Verdict.j1 : Nat → ByteArray → Bool → Int → Int → Bool → Option (Bool × (List (S41)))
 | 0, _, _, _, _, _ => none
 | k + 1, x1, x3, x4, x13, x29 => if x29 = true then (some (true, ([] : List (S41)))) else (if x3 = true then ((gate_may.f k (([(⟨5, 0, 0, 0, x1, 0, 0, 0, 0⟩ : S41)] : List (S41)))).bind fun t127 => (some (true, t127))) else ((gate_may.f k (([(⟨4, 0, 0, 0, x1, 0, 0, 0, mx x4 x13⟩ : S41)] : List (S41)))).bind fun t133 => (some (false, t133))))
end
def gate_Verdict.f (k : Nat) (a0_0 : Int) (l0_1 : List (S76)) (l0_2 : List (S72)) (l0_3 : List (S64)) (a1 : ByteArray) (a2 : Bool) (a3 : Bool) (a4 : Int) : Option (Bool × (List (S41))) := (gate_Failed.f a0_0 l0_1 l0_2 l0_3 a1).bind fun bt121 => (if a2 = true then ((gate_Locked.f a0_0 l0_1 l0_2 l0_3 a1 a4).bind fun t123 => (gate_Verdict.j0 k a1 a3 a4 bt121.1 bt121.2 t123)) else (gate_Verdict.j0 k a1 a3 a4 bt121.1 bt121.2 true))
theorem gate_Verdict.mono_l : ∀ k, (∀ y0 y1 y2 y3 y4 y5, LeO (gate_Verdict.j0 k y0 y1 y2 y3 y4 y5) (gate_Verdict.j0 (k + 1) y0 y1 y2 y3 y4 y5)) ∧ (∀ y0 y1 y2 y3 y4, LeO (gate_Verdict.j1 k y0 y1 y2 y3 y4) (gate_Verdict.j1 (k + 1) y0 y1 y2 y3 y4))
 | 0 => ⟨fun _ _ _ _ _ _ r h => by simp [gate_Verdict.j0] at h, fun _ _ _ _ _ r h => by simp [gate_Verdict.j1] at h⟩
 | k + 1 => by
  obtain ⟨ih0, ih1⟩ := gate_Verdict.mono_l k
  refine ⟨?_, ?_⟩
  ·intro y0 y1 y2 y3 y4 y5
   unfold gate_Verdict.j0
   repeat' first
   | (with_reducible exact ih0 _ _ _ _ _ _)
   | (with_reducible exact ih1 _ _ _ _ _)
   | (with_reducible exact gate_may.mono _ _)
   | (with_reducible exact LeO.refl _)
   | (with_reducible exact LeO.none _)
   | (with_reducible refine LeO.ite ?_ ?_)
   | (with_reducible refine LeO.bind ?_ (fun _ => ?_))
   | exact ih0 _ _ _ _ _ _
   | exact ih1 _ _ _ _ _
   | exact gate_may.mono _ _
   | exact LeO.none _
   | refine LeO.ite ?_ ?_
   | refine LeO.bind ?_ (fun _ => ?_)
  ·intro y0 y1 y2 y3 y4
   unfold gate_Verdict.j1
   repeat' first
   | (with_reducible exact ih0 _ _ _ _ _ _)
   | (with_reducible exact ih1 _ _ _ _ _)
   | (with_reducible exact gate_may.mono _ _)
   | (with_reducible exact LeO.refl _)
   | (with_reducible exact LeO.none _)
   | (with_reducible refine LeO.ite ?_ ?_)
   | (with_reducible refine LeO.bind ?_ (fun _ => ?_))
   | exact ih0 _ _ _ _ _ _
   | exact ih1 _ _ _ _ _
   | exact gate_may.mono _ _
   | exact LeO.none _
   | refine LeO.ite ?_ ?_
   | refine LeO.bind ?_ (fun _ => ?_)
theorem gate_Verdict.mono : ∀ a0 a1 a2 a3 a4 a5 a6 a7 k, LeO (gate_Verdict.f k a0 a1 a2 a3 a4 a5 a6 a7) (gate_Verdict.f (k + 1) a0 a1 a2 a3 a4 a5 a6 a7) := by
 intro a0 a1 a2 a3 a4 a5 a6 a7 k
 obtain ⟨ih0, ih1⟩ := gate_Verdict.mono_l k
 unfold gate_Verdict.f
 repeat' first
   | (with_reducible exact ih0 _ _ _ _ _ _)
   | (with_reducible exact ih1 _ _ _ _ _)
   | (with_reducible exact gate_may.mono _ _)
   | (with_reducible exact LeO.refl _)
   | (with_reducible exact LeO.none _)
   | (with_reducible refine LeO.ite ?_ ?_)
   | (with_reducible refine LeO.bind ?_ (fun _ => ?_))
   | exact ih0 _ _ _ _ _ _
   | exact ih1 _ _ _ _ _
   | exact gate_may.mono _ _
   | exact LeO.none _
   | refine LeO.ite ?_ ?_
   | refine LeO.bind ?_ (fun _ => ?_)
set_option maxHeartbeats 8000000 in
set_option maxRecDepth 100000 in
theorem gate_Verdict.calls (k : Nat) (af : Int) (ai : Option Addr) (aj : Nat) (ac : List (S76)) (ak : Option Addr) (al : Nat) (ad : List (S72)) (am : Option Addr) (an : Nat) (ae : List (S64)) (a1 : ByteArray) (a2 : Bool) (a3 : Bool) (a4 : Int) (r1 : Bool) (r2 : List (S41)) (w : World) (hr0_1 : Kd.C k76 w ai ac.length ac) (hc0_1 : ac.length ≤ aj) (hr0_2 : Kd.C k72 w ak ad.length ad) (hc0_2 : ad.length ≤ al) (hr0_3 : Kd.C k64 w am ae.length ae) (hc0_3 : ae.length ≤ an) (h : gate_Verdict.f k af ac ad ae a1 a2 a3 a4 = some (r1, r2)) :
  Calls Try.prog 11 #[.agg #[.int .i64 af, .slice ai ac.length aj, .slice ak ad.length al, .slice am ae.length an], .string a1, .bool a2, .bool a3, .int .i64 a4] w fun e w' => ∃ v1_ : Value, e = .returned (.tuple #[.bool r1, v1_]) ∧ Kd.V k41 41 w' w.heap.size (fun k_ => (w.heap.size ≤ k_)) v1_ r2 ∧ Below w.heap.size w w' := by
 have hu26 := Try.underlying26
 have hu41 := Try.underlying41
 have aT := Aside0.mk hr0_1
 have HC0_1 := Aside0.mk hc0_1
 clear hr0_1 hc0_1
 have aU := Aside0.mk hr0_2
 have HC0_2 := Aside0.mk hc0_2
 clear hr0_2 hc0_2
 have aV := Aside0.mk hr0_3
 have HC0_3 := Aside0.mk hc0_3
 clear hr0_3 hc0_3
 have HB := Aside0.mk (Below.refl w.heap.size w)
 have H : ((gate_Failed.f af ac ad ae a1).bind fun ay => (if a2 = true then ((gate_Locked.f af ac ad ae a1 a4).bind fun aq => (gate_Verdict.j0 k a1 a3 a4 ay.1 ay.2 aq)) else (gate_Verdict.j0 k a1 a3 a4 ay.1 ay.2 true))) = some (r1, r2) := h
 clear h
 replace H := Option.bind_eq_some_iff.mp H
 obtain ⟨⟨ao, ah⟩, bf, H⟩ := H
 replace H : (if a2 = true then ((gate_Locked.f af ac ad ae a1 a4).bind fun aq => (gate_Verdict.j0 k a1 a3 a4 ao ah aq)) else (gate_Verdict.j0 k a1 a3 a4 ao ah true)) = some (r1, r2) := H
 have A6 := Aside0.mk bf
 clear bf
 have HC7 := Aside0.mk H
 clear H
 go_enter Try.func11, Try.ntmps11
 go_upto_region 2 with (first | ((with_reducible refine gate_dst (N := 5) rfl ?_); refine box_event ?hg (N := 5) ?hd (cs := #[.int .i64 af, .slice ai ac.length aj, .slice ak ad.length al, .slice am ae.length an]) (t := 26) ?hr ?_; (case hd => rfl); (case hg => rfl); (case hr => first | (go_simp; done) | (go_simp; rfl)); intro ag hg w8 hbox hb; have n0_ := Aside0.mk (below_step (zH HB.out) hb); have n1_ := Aside0.mk (hbox); have n2_ := Aside0.mk ((by rw [hg]; exact (below_size (zH HB.out)) : w.heap.size ≤ ag)); have n3_ := Aside0.mk ((by rw [hg]; exact (below_size (zH HB.out)) : w.heap.size ≤ ag)); clear HB; have HB := n0_; have aa := n1_; have bm := n2_; have ab := n3_; clear n0_ n1_ n2_ n3_; clear hb hbox hg; obtain ⟨aK, aL, aM, aN, aO, aP, aQ, aR⟩ := bk4 aa.out) | ((with_reducible refine gate_callee (f := 12) rfl ?_); refine goesL_ (some 17) rfl rfl Try.func12 (by kernel_rfl) rfl #[.agg #[.int .i64 af, .slice ai ac.length aj, .slice ak ad.length al, .slice am ae.length an], .string a1] rfl (by (try simp only [List.map_toArray, List.map_cons, List.map_nil]); first | done | rfl | (simp only [List.length_drop, List.length_take]; rfl)) ?_; (with_reducible refine (gate_Failed.calls af _ _ ac _ _ ad _ _ ae a1 ao ah _ ?side1 ?side2 ?side3 ?side4 ?side5 ?side6 A6.out).mono ?_); (case side1 => repeat (first | exact (Kd.C_below aT.out HB.out) | (with_reducible refine Kd.C_alloc ?_ _) | (with_reducible refine Kd.C_drewN ?_ _) | (with_reducible refine Kd.C_drew ?_))); (case side2 => exact HC0_1.out); (case side3 => repeat (first | exact (Kd.C_below aU.out HB.out) | (with_reducible refine Kd.C_alloc ?_ _) | (with_reducible refine Kd.C_drewN ?_ _) | (with_reducible refine Kd.C_drew ?_))); (case side4 => exact HC0_2.out); (case side5 => repeat (first | exact (Kd.C_below aV.out HB.out) | (with_reducible refine Kd.C_alloc ?_ _) | (with_reducible refine Kd.C_drewN ?_ _) | (with_reducible refine Kd.C_drew ?_))); (case side6 => exact HC0_3.out); rintro e w10 ⟨rfl, hb⟩; refine ⟨_, rfl, ?_⟩; have n0_ := Aside0.mk (blk_below (g := ag) (o := .cells #[.int .i64 af, .slice ai ac.length aj, .slice ak ad.length al, .slice am ae.length an] 26 (0, 0)) (zB aa.out) hb); have n1_ := Aside0.mk (below_step (by repeat (first | (with_reducible first | exact HB.out | apply pA | apply pN | apply pD | refine pS ?_ ab.out) | exact HB.out)) hb); clear aa; clear HB; have aa := n0_; have HB := n1_; clear n0_ n1_; (try clear hb); (try clear hb2); (try clear hk); (try clear hi)))
 (try simp only [Act.put, sT, s0, s1])
 go_cut [20] (fun v20 wc => ∃ (kq : Nat) (az : Bool), v20 = .bool az ∧ Aside0 (gate_Verdict.j0 kq a1 a3 a4 ao ah az = some (r1, r2)) ∧ Aside0 (kq ≤ k) ∧ Aside0 (wc.heap[ag]? = some (.cells #[.int .i64 af, (.slice ai ac.length aj), (.slice ak ad.length al), (.slice am ae.length an)] 26 (0, 0))) ∧ Aside0 (Below w.heap.size w wc))
 case first =>
  have H := HC7.out
  clear HC7
  by_cases c11 : a2 = true
  ·subst c11
   have H1 : ((gate_Locked.f af ac ad ae a1 a4).bind fun aq => (gate_Verdict.j0 k a1 a3 a4 ao ah aq)) = some (r1, r2) := by rw [if_pos rfl] at H; exact H
   clear H
   have H := H1
   clear H1
   replace H := Option.bind_eq_some_iff.mp H
   obtain ⟨aq, aY, H⟩ := H
   replace H : (gate_Verdict.j0 k a1 a3 a4 ao ah aq) = some (r1, r2) := H
   have bj := Aside0.mk aY
   clear aY
   have H' := Aside0.mk H
   clear H
   obtain ⟨aA, aB, aC, aD, aE, aF, aG, aH⟩ := bk4 aa.out
   go_wp2_with (first | (go_at_call 13; (with_reducible refine (gate_Locked.calls af _ _ ac _ _ ad _ _ ae a1 a4 aq _ ?side1 ?side2 ?side3 ?side4 ?side5 ?side6 bj.out).mono ?_); (case side1 => repeat (first | exact (Kd.C_below aT.out HB.out) | (with_reducible refine Kd.C_alloc ?_ _) | (with_reducible refine Kd.C_drewN ?_ _) | (with_reducible refine Kd.C_drew ?_))); (case side2 => exact HC0_1.out); (case side3 => repeat (first | exact (Kd.C_below aU.out HB.out) | (with_reducible refine Kd.C_alloc ?_ _) | (with_reducible refine Kd.C_drewN ?_ _) | (with_reducible refine Kd.C_drew ?_))); (case side4 => exact HC0_2.out); (case side5 => repeat (first | exact (Kd.C_below aV.out HB.out) | (with_reducible refine Kd.C_alloc ?_ _) | (with_reducible refine Kd.C_drewN ?_ _) | (with_reducible refine Kd.C_drew ?_))); (case side6 => exact HC0_3.out); rintro e w14 ⟨rfl, hb⟩; have n0_ := Aside0.mk (blk_below (g := ag) (o := .cells #[.int .i64 af, .slice ai ac.length aj, .slice ak ad.length al, .slice am ae.length an] 26 (0, 0)) (zB aa.out) hb); have n1_ := Aside0.mk (below_step (by repeat (first | (with_reducible first | exact HB.out | apply pA | apply pN | apply pD | refine pS ?_ ab.out) | exact HB.out)) hb); clear aa; clear HB; have aa := n0_; have HB := n1_; clear n0_ n1_; (try clear hb); (try clear hb2); (try clear hk); (try clear hi)))
   go_meet
   case rel => exact ⟨_, (aq), (by first | rfl | (simp; done) | (simp [*]; done)), H', ⟨by first | omega | exact Nat.le_refl _⟩, ⟨zB aa.out⟩, ⟨by repeat (first | (with_reducible first | exact HB.out | apply pA | apply pN | apply pD | refine pS ?_ ab.out) | exact HB.out)⟩⟩
  ·replace c11 := Bool.eq_false_iff.mpr c11
   subst c11
   have H1 : (gate_Verdict.j0 k a1 a3 a4 ao ah true) = some (r1, r2) := by rw [if_neg (show ¬ (false = true) by decide)] at H; exact H
   clear H
   have H := H1
   clear H1
   have H' := Aside0.mk H
   clear H
   go_wp2
   go_meet
   case rel => exact ⟨_, (true), (by first | rfl | (simp; done) | (simp [*]; done)), H', ⟨by first | omega | exact Nat.le_refl _⟩, ⟨zB aa.out⟩, ⟨by repeat (first | (with_reducible first | exact HB.out | apply pA | apply pN | apply pD | refine pS ?_ ab.out) | exact HB.out)⟩⟩
 case rest =>
  clear HC7
  try clear c1
  try clear p2
  try clear c11
  try clear c12
  try clear aA
  try clear aB
  try clear aC
  try clear aD
  try clear aK
  try clear aL
  try clear aM
  try clear aN
  try clear aE
  try clear aF
  try clear aG
  try clear aH
  try clear aO
  try clear aP
  try clear aQ
  try clear aR
  obtain ⟨kq, az, rfl, HA, bg, aa, HB⟩ := hcut
  cases kq with
  | zero => exact absurd HA.out (by simp [gate_Verdict.j0])
  | succ aS =>
   have H := HA.out
   clear HA
   simp only [gate_Verdict.j0] at H
   by_cases c15 : az = true
   ·subst c15
    have H1 : (some (false, ([] : List (S41)))) = some (r1, r2) := by rw [if_pos rfl] at H; exact H
    clear H
    have H := H1
    clear H1
    simp only [Option.some.injEq, Prod.mk.injEq] at H
    obtain ⟨rfl, rfl⟩ := H
    go_wp2
    go_ret2
    exact ⟨_, by first | rfl | (simp [errW_none, errW_some] <;> rfl) | (simp [*, errW_none, errW_some] <;> rfl), (Kd.V_nil _ _ _ _ _), by repeat (first | (with_reducible first | exact HB.out | apply pA | apply pN | apply pD | refine pS ?_ ab.out) | exact HB.out)⟩
   ·replace c15 := Bool.eq_false_iff.mpr c15
    subst c15
    have H1 : (if a3 = true then (gate_Verdict.j1 aS a1 a3 a4 ah (ao == 0)) else (gate_Verdict.j1 aS a1 a3 a4 ah false)) = some (r1, r2) := by rw [if_neg (show ¬ (false = true) by decide)] at H; exact H
    clear H
    have H := H1
    clear H1
    have HC16 := Aside0.mk H
    clear H
    go_upto_region 4 with (fail)
    go_cut [29] (fun v29 wc => ∃ (kq : Nat) (ax : Bool), v29 = .bool ax ∧ Aside0 (gate_Verdict.j1 kq a1 a3 a4 ah ax = some (r1, r2)) ∧ Aside0 (kq ≤ aS) ∧ Aside0 (wc.heap[ag]? = some (.cells #[.int .i64 af, (.slice ai ac.length aj), (.slice ak ad.length al), (.slice am ae.length an)] 26 (0, 0))) ∧ Aside0 (Below w.heap.size w wc))
    case first =>
     have H := HC16.out
     clear HC16
     by_cases c17 : a3 = true
     ·subst c17
      have H1 : (gate_Verdict.j1 aS a1 true a4 ah (ao == 0)) = some (r1, r2) := by rw [if_pos rfl] at H; exact H
      clear H
      have H := H1
      clear H1
      have H' := Aside0.mk H
      clear H
      go_wp2
      go_meet
      case rel => exact ⟨_, ((ao == 0)), (by first | rfl | (simp; done) | (simp [*]; done)), H', ⟨by have := bg.out; first | omega | exact Nat.le_refl _⟩, ⟨zB aa.out⟩, ⟨by repeat (first | (with_reducible first | exact HB.out | apply pA | apply pN | apply pD | refine pS ?_ ab.out) | exact HB.out)⟩⟩
     ·replace c17 := Bool.eq_false_iff.mpr c17
      subst c17
      have H1 : (gate_Verdict.j1 aS a1 false a4 ah false) = some (r1, r2) := by rw [if_neg (show ¬ (false = true) by decide)] at H; exact H
      clear H
      have H := H1
      clear H1
      have H' := Aside0.mk H
      clear H
      go_wp2
      go_meet
      case rel => exact ⟨_, (false), (by first | rfl | (simp; done) | (simp [*]; done)), H', ⟨by have := bg.out; first | omega | exact Nat.le_refl _⟩, ⟨zB aa.out⟩, ⟨by repeat (first | (with_reducible first | exact HB.out | apply pA | apply pN | apply pD | refine pS ?_ ab.out) | exact HB.out)⟩⟩
    case rest =>
     clear HC16
     try clear c1
     try clear p2
     try clear c11
     try clear c12
     try clear c15
     try clear c17
     try clear aA
     try clear aB
     try clear aC
     try clear aD
     try clear aK
     try clear aL
     try clear aM
     try clear aN
     try clear aE
     try clear aF
     try clear aG
     try clear aH
     try clear aO
     try clear aP
     try clear aQ
     try clear aR
     try clear p2
     obtain ⟨kq, ax, rfl, HA, bn, aa, HB⟩ := hcut
     cases kq with
     | zero => exact absurd HA.out (by simp [gate_Verdict.j1])
     | succ ar =>
      have H := HA.out
      clear HA
      simp only [gate_Verdict.j1] at H
      by_cases c18 : ax = true
      ·subst c18
       have H1 : (some (true, ([] : List (S41)))) = some (r1, r2) := by rw [if_pos rfl] at H; exact H
       clear H
       have H := H1
       clear H1
       simp only [Option.some.injEq, Prod.mk.injEq] at H
       obtain ⟨rfl, rfl⟩ := H
       go_wp2
       go_ret2
       exact ⟨_, by first | rfl | (simp [errW_none, errW_some] <;> rfl) | (simp [*, errW_none, errW_some] <;> rfl), (Kd.V_nil _ _ _ _ _), by repeat (first | (with_reducible first | exact HB.out | apply pA | apply pN | apply pD | refine pS ?_ ab.out) | exact HB.out)⟩
      ·replace c18 := Bool.eq_false_iff.mpr c18
       subst c18
       have H1 : (if a3 = true then ((gate_may.f ar (([(⟨5, 0, 0, 0, a1, 0, 0, 0, 0⟩ : S41)] : List (S41)))).bind fun aw => (some (true, aw))) else ((gate_may.f ar (([(⟨4, 0, 0, 0, a1, 0, 0, 0, mx a4 ah⟩ : S41)] : List (S41)))).bind fun ap => (some (false, ap)))) = some (r1, r2) := by rw [if_neg (show ¬ (false = true) by decide)] at H; exact H
       clear H
       have H := H1
       clear H1
       by_cases c19 : a3 = true
       ·subst c19
        have H1 : ((gate_may.f ar (([(⟨5, 0, 0, 0, a1, 0, 0, 0, 0⟩ : S41)] : List (S41)))).bind fun aw => (some (true, aw))) = some (r1, r2) := by rw [if_pos rfl] at H; exact H
        clear H
        have H := H1
        clear H1
        obtain ⟨aI, hy124⟩ : ∃ y_ : List (S41), y_ = (([(⟨5, 0, 0, 0, a1, 0, 0, 0, 0⟩ : S41)] : List (S41))) := ⟨_, rfl⟩
        replace H : ((gate_may.f ar aI).bind fun aw => (some (true, aw))) = some (r1, r2) := by first | (rw [hy124]; with_reducible exact H) | (have H2_ := (Option.bind_some _ _).symm.trans H; rw [hy124]; with_reducible exact H2_) | (have H2_ := (Option.bind_some _ _).symm.trans H; with_reducible exact H2_) | with_reducible exact H | (rw [hy124]; exact H) | exact H
        have aW := Aside0.mk hy124
        clear hy124
        replace H := Option.bind_eq_some_iff.mp H
        obtain ⟨aw, aZ, H⟩ := H
        replace H : (some (true, aw)) = some (r1, r2) := H
        have bk := Aside0.mk aZ
        clear aZ
        simp only [Option.some.injEq, Prod.mk.injEq] at H
        obtain ⟨rfl, rfl⟩ := H
        go_wp2_with (first | ((with_reducible refine gate_dst (N := 39) rfl ?_); refine Kd.R_lit k41 _ 41 ?hg (N := 39) ?hd (xs := ([(⟨5, 0, 0, 0, a1, 0, 0, 0, 0⟩ : S41)] : List (S41))) (inner := [.int .i64 5, .int .i64 0, .int .i64 0, .int .u32 0, .string a1, .int .u64 0, .int .u64 0, .int .i64 0, .int .i64 0]) (ok := fun _ => True) (okp := fun _ => True) ?hr ?hp (fun _ hk => hk) trivial (Below.refl _ _) (Nat.le_refl _) (by simp) ?_; (case hd => rfl); (case hg => rfl); (case hr => first | (go_simp; done) | (go_simp; rfl)); (case hp => exact (Reps.c9 (show Kd.M k41 _ _ _ (⟨5, 0, 0, 0, a1, 0, 0, 0, 0⟩ : S41) [.int .i64 5, .int .i64 0, .int .i64 0, .int .u32 0, .string a1, .int .u64 0, .int .u64 0, .int .i64 0, .int .i64 0] from (k41_mkM _ _ _ (⟨5, 0, 0, 0, a1, 0, 0, 0, 0⟩ : S41) )) (Reps.none _ _))); intro v125 w21 ho22 hb hg_ hnew_; clear hg_ hnew_; (first | rw [← aW.out] at ho22 | (simp only [Int.reduceToNat] at ho22; rw [← aW.out] at ho22)); have n0_ := Aside0.mk (Kd.R_lower (Kd.R_newM (M := fun k_ => (w.heap.size ≤ k_)) ho22 (below_size (by repeat (first | (with_reducible first | exact HB.out | apply pA | apply pN | apply pD | refine pS ?_ ab.out) | exact HB.out))) (fun k_ h_ => h_)) (below_size (by repeat (first | (with_reducible first | exact HB.out | apply pA | apply pN | apply pD | refine pS ?_ ab.out) | exact HB.out)))); have n1_ := Aside0.mk (blk_below (g := ag) (o := .cells #[.int .i64 af, .slice ai ac.length aj, .slice ak ad.length al, .slice am ae.length an] 26 (0, 0)) (zB aa.out) hb); have n2_ := Aside0.mk (below_step (by repeat (first | (with_reducible first | exact HB.out | apply pA | apply pN | apply pD | refine pS ?_ ab.out) | exact HB.out)) hb); clear aa; clear HB; have au := n0_; have aa := n1_; have HB := n2_; clear n0_ n1_ n2_; clear hb ho22; obtain ⟨a8, a9, bh⟩ := Kd.R_slice au.out; subst bh) | ((with_reducible refine gate_callee (f := 19) rfl ?_); refine goesL_ (some 40) rfl rfl Try.func19 (by kernel_rfl) rfl #[.slice a8 aI.length a9] rfl (by (try simp only [List.map_toArray, List.map_cons, List.map_nil]); first | done | rfl | (simp only [List.length_drop, List.length_take]; rfl)) ?_; (with_reducible refine (gate_may.calls ar (fun k_ => some k_ = (.slice a8 aI.length a9 : Value).ownBlock) _ _ aI aw _ ?side1 bk.out).mono ?_); (case side1 => exact Kd.R_V (Kd.R_tight rfl (Kd.R_types (au.out) aa.out (by decide)))); rintro e w24 ⟨v128, rfl, ho0, hb⟩; refine ⟨_, rfl, ?_⟩; have n0_ := Aside0.mk (Kd.R_below (zR au.out) hb); have n1_ := Aside0.mk (Kd.V_lower (Kd.V_mono (ok' := fun k_ => (w.heap.size ≤ k_) ∧ k_ ≠ ag) ho0 (fun k_ hk_ => ⟨Or.elim hk_ (fun hs_ => ((Kd.R_types (au.out) aa.out (by decide)).1 k_ hs_.symm).1.1) (fun hn_ => (Nat.le_trans (below_size (by repeat (first | (with_reducible first | exact HB.out | apply pA | apply pN | apply pD | refine pS ?_ ab.out) | exact HB.out))) hn_)), Or.elim hk_ (fun hs_ => ((Kd.R_types (au.out) aa.out (by decide)).1 k_ hs_.symm).2) (fun hn_ => (Kd.freshB (g := ag) (o := .cells #[.int .i64 af, .slice ai ac.length aj, .slice ak ad.length al, .slice am ae.length an] 26 (0, 0)) (zB aa.out) k_ hn_))⟩)) (below_size (by repeat (first | (with_reducible first | exact HB.out | apply pA | apply pN | apply pD | refine pS ?_ ab.out) | exact HB.out)))); have n2_ := Aside0.mk (blk_below (g := ag) (o := .cells #[.int .i64 af, .slice ai ac.length aj, .slice ak ad.length al, .slice am ae.length an] 26 (0, 0)) (zB aa.out) hb); have n3_ := Aside0.mk (below_step (by repeat (first | (with_reducible first | exact HB.out | apply pA | apply pN | apply pD | refine pS ?_ ab.out) | exact HB.out)) hb); clear au; clear aa; clear HB; have au := n0_; have bd := n1_; have aa := n2_; have HB := n3_; clear n0_ n1_ n2_ n3_; (try clear hb); (try clear hb2); (try clear hk); (try clear hi); (try clear ho0)))
        go_ret2
        exact ⟨_, by first | rfl | (simp [errW_none, errW_some] <;> rfl) | (simp [*, errW_none, errW_some] <;> rfl), zV (Kd.V_mono bd.out (fun _ hk => hk.1)), by repeat (first | (with_reducible first | exact HB.out | apply pA | apply pN | apply pD | refine pS ?_ ab.out) | exact HB.out)⟩
       ·replace c19 := Bool.eq_false_iff.mpr c19
        subst c19
        have H1 : ((gate_may.f ar (([(⟨4, 0, 0, 0, a1, 0, 0, 0, mx a4 ah⟩ : S41)] : List (S41)))).bind fun ap => (some (false, ap))) = some (r1, r2) := by rw [if_neg (show ¬ (false = true) by decide)] at H; exact H
        clear H
        have H := H1
        clear H1
        obtain ⟨ji25, hji25⟩ : ∃ j_ : Int, (mx a4 ah) = j_ := ⟨_, rfl⟩
        replace H : ((gate_may.f ar (([(⟨4, 0, 0, 0, a1, 0, 0, 0, ji25⟩ : S41)] : List (S41)))).bind fun ap => (some (false, ap))) = some (r1, r2) := by first | (rw [hji25] at H; exact H) | (simp only [hji25] at H ⊢; exact H)
        have hji25_ : (if a4 < ah then ah else a4) = ji25 := hji25
        obtain ⟨aJ, hy130⟩ : ∃ y_ : List (S41), y_ = (([(⟨4, 0, 0, 0, a1, 0, 0, 0, ji25⟩ : S41)] : List (S41))) := ⟨_, rfl⟩
        replace H : ((gate_may.f ar aJ).bind fun ap => (some (false, ap))) = some (r1, r2) := by first | (rw [hy130]; with_reducible exact H) | (have H2_ := (Option.bind_some _ _).symm.trans H; rw [hy130]; with_reducible exact H2_) | (have H2_ := (Option.bind_some _ _).symm.trans H; with_reducible exact H2_) | with_reducible exact H | (rw [hy130]; exact H) | exact H
        have aX := Aside0.mk hy130
        clear hy130
        replace H := Option.bind_eq_some_iff.mp H
        obtain ⟨ap, ba, H⟩ := H
        replace H : (some (false, ap)) = some (r1, r2) := H
        have bl := Aside0.mk ba
        clear ba
        simp only [Option.some.injEq, Prod.mk.injEq] at H
        obtain ⟨rfl, rfl⟩ := H
        go_wp2_with (first | ((with_reducible refine gate_dst (N := 46) rfl ?_); refine Kd.R_lit k41 _ 41 ?hg (N := 46) ?hd (xs := ([(⟨4, 0, 0, 0, a1, 0, 0, 0, ji25⟩ : S41)] : List (S41))) (inner := [.int .i64 4, .int .i64 0, .int .i64 0, .int .u32 0, .string a1, .int .u64 0, .int .u64 0, .int .i64 0, .int .i64 ji25]) (ok := fun _ => True) (okp := fun _ => True) ?hr ?hp (fun _ hk => hk) trivial (Below.refl _ _) (Nat.le_refl _) (by simp) ?_; (case hd => rfl); (case hg => rfl); (case hr => first | (go_simp; done) | (go_simp; rfl)); (case hp => exact (Reps.c9 (show Kd.M k41 _ _ _ (⟨4, 0, 0, 0, a1, 0, 0, 0, ji25⟩ : S41) [.int .i64 4, .int .i64 0, .int .i64 0, .int .u32 0, .string a1, .int .u64 0, .int .u64 0, .int .i64 0, .int .i64 ji25] from (k41_mkM _ _ _ (⟨4, 0, 0, 0, a1, 0, 0, 0, ji25⟩ : S41) )) (Reps.none _ _))); intro v131 w27 ho28 hb hg_ hnew_; clear hg_ hnew_; (first | rw [← aX.out] at ho28 | (simp only [Int.reduceToNat] at ho28; rw [← aX.out] at ho28)); have n0_ := Aside0.mk (Kd.R_lower (Kd.R_newM (M := fun k_ => (w.heap.size ≤ k_)) ho28 (below_size (by repeat (first | (with_reducible first | exact HB.out | apply pA | apply pN | apply pD | refine pS ?_ ab.out) | exact HB.out))) (fun k_ h_ => h_)) (below_size (by repeat (first | (with_reducible first | exact HB.out | apply pA | apply pN | apply pD | refine pS ?_ ab.out) | exact HB.out)))); have n1_ := Aside0.mk (blk_below (g := ag) (o := .cells #[.int .i64 af, .slice ai ac.length aj, .slice ak ad.length al, .slice am ae.length an] 26 (0, 0)) (zB aa.out) hb); have n2_ := Aside0.mk (below_step (by repeat (first | (with_reducible first | exact HB.out | apply pA | apply pN | apply pD | refine pS ?_ ab.out) | exact HB.out)) hb); clear aa; clear HB; have av := n0_; have aa := n1_; have HB := n2_; clear n0_ n1_ n2_; clear hb ho28; obtain ⟨bb, bc, bi⟩ := Kd.R_slice av.out; subst bi) | ((with_reducible refine gate_callee (f := 19) rfl ?_); refine goesL_ (some 47) rfl rfl Try.func19 (by kernel_rfl) rfl #[.slice bb aJ.length bc] rfl (by (try simp only [List.map_toArray, List.map_cons, List.map_nil]); first | done | rfl | (simp only [List.length_drop, List.length_take]; rfl)) ?_; (with_reducible refine (gate_may.calls ar (fun k_ => some k_ = (.slice bb aJ.length bc : Value).ownBlock) _ _ aJ ap _ ?side1 bl.out).mono ?_); (case side1 => exact Kd.R_V (Kd.R_tight rfl (Kd.R_types (av.out) aa.out (by decide)))); rintro e w30 ⟨v134, rfl, ho0, hb⟩; refine ⟨_, rfl, ?_⟩; have n0_ := Aside0.mk (Kd.R_below (zR av.out) hb); have n1_ := Aside0.mk (Kd.V_lower (Kd.V_mono (ok' := fun k_ => (w.heap.size ≤ k_) ∧ k_ ≠ ag) ho0 (fun k_ hk_ => ⟨Or.elim hk_ (fun hs_ => ((Kd.R_types (av.out) aa.out (by decide)).1 k_ hs_.symm).1.1) (fun hn_ => (Nat.le_trans (below_size (by repeat (first | (with_reducible first | exact HB.out | apply pA | apply pN | apply pD | refine pS ?_ ab.out) | exact HB.out))) hn_)), Or.elim hk_ (fun hs_ => ((Kd.R_types (av.out) aa.out (by decide)).1 k_ hs_.symm).2) (fun hn_ => (Kd.freshB (g := ag) (o := .cells #[.int .i64 af, .slice ai ac.length aj, .slice ak ad.length al, .slice am ae.length an] 26 (0, 0)) (zB aa.out) k_ hn_))⟩)) (below_size (by repeat (first | (with_reducible first | exact HB.out | apply pA | apply pN | apply pD | refine pS ?_ ab.out) | exact HB.out)))); have n2_ := Aside0.mk (blk_below (g := ag) (o := .cells #[.int .i64 af, .slice ai ac.length aj, .slice ak ad.length al, .slice am ae.length an] 26 (0, 0)) (zB aa.out) hb); have n3_ := Aside0.mk (below_step (by repeat (first | (with_reducible first | exact HB.out | apply pA | apply pN | apply pD | refine pS ?_ ab.out) | exact HB.out)) hb); clear av; clear aa; clear HB; have av := n0_; have be := n1_; have aa := n2_; have HB := n3_; clear n0_ n1_ n2_ n3_; (try clear hb); (try clear hb2); (try clear hk); (try clear hi); (try clear ho0)))
        go_ret2
        exact ⟨_, by first | rfl | (simp [errW_none, errW_some] <;> rfl) | (simp only [← hji25]; first | rfl | (simp [errW_none, errW_some] <;> rfl)) | (simp [*, errW_none, errW_some] <;> rfl), zV (Kd.V_mono be.out (fun _ hk => hk.1)), by repeat (first | (with_reducible first | exact HB.out | apply pA | apply pN | apply pD | refine pS ?_ ab.out) | exact HB.out)⟩

end Go.Proofs.Ytocjadhpaecpaaa.Q

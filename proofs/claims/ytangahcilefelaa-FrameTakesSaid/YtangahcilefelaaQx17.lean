-- written by this session's own program (wip/tools/myprint.py), over the kit's print
import Derived.Test.YtangahcilefelaaQx0
import Derived.Test.YtangahcilefelaaQx16
namespace Go.Proofs.Ytangahcilefelaa.Q
open Go.RowKit Go.Proofs.YtangahcilefelaaW.PrintWords Go.Proofs.YtangahcilefelaaW.PrintLast Go.Proofs.YtangahcilefelaaW.PrintMore
open Go.Proofs.YtangahcilefelaaV
attribute [local go_sem] max2_int min2_int max_two min_two max_three min_three max_four min_four   -- for this text's walks alone
set_option linter.unusedVariables false
set_option linter.unusedSimpArgs false

/-! ### portreeveref08_Read: function 29 -/
mutual
def portreeveref08_Read.j0 : Nat → List Int → Bool → Option (Int × List Int × Int)
 | 0, _, _ => none
 | k + 1, x4, x32 => if x32 = true then (if 2 ≤ (x4.length : Int) then (portreeveref08_Read.j1 k (x4.drop 2)) else (none)) else (portreeveref08_Read.j1 k x4)
def portreeveref08_Read.j1 : Nat → List Int → Option (Int × List Int × Int)
 | 0, _ => none
 | k + 1, x4 => if (x4.length : Int) = 0 then (some (0, ([] : List Int), 2)) else (if 0 < (x4.length : Int) then (if 1 ≤ (x4.length : Int) then (if (Int.tmod (IntKind.u16.wrap (rd x4 0)) 2) = 0 then (if (x4.length : Int) < 2 then (some (0, ([] : List Int), 2)) else (if 1 < (x4.length : Int) then (if 2 ≤ (x4.length : Int) then (portreeveref08_Read.j2 k (IntKind.u16.wrap ((IntKind.u16.wrap ((IntKind.u16.wrap (rd x4 0)) * 256)) + (IntKind.u16.wrap (rd x4 1)))) (x4.drop 2)) else (none)) else (none))) else (portreeveref08_Read.j2 k (IntKind.u16.wrap (rd x4 0)) (x4.drop 1))) else (none)) else (none))
def portreeveref08_Read.j2 : Nat → Int → List Int → Option (Int × List Int × Int)
 | 0, _, _ => none
 | k + 1, x6, x7 => (portreeveref08_Proto.f x6).bind fun t364 => (if t364 = true then (if (x7.length : Int) > 1500 then (some (0, ([] : List Int), 4)) else (some (x6, x7, 0))) else (some (0, ([] : List Int), 2)))
end
def portreeveref08_Read.f (k : Nat) (l0 : List Int) : Option (Int × List Int × Int) := (portreeveref01_Cut.f k l0).bind fun bt341 => (if bt341.2 = 0 then (if (bt341.1.length : Int) ≥ 2 then (if 0 < (bt341.1.length : Int) then (if (rd bt341.1 0) = 255 then (if 1 < (bt341.1.length : Int) then (portreeveref08_Read.j0 k bt341.1 ((rd bt341.1 1) == 3)) else (none)) else (portreeveref08_Read.j0 k bt341.1 false)) else (none)) else (portreeveref08_Read.j0 k bt341.1 false)) else (some (0, ([] : List Int), bt341.2)))
theorem portreeveref08_Read.mono_l : ∀ k, (∀ y0 y1, LeO (portreeveref08_Read.j0 k y0 y1) (portreeveref08_Read.j0 (k + 1) y0 y1)) ∧ (∀ y0, LeO (portreeveref08_Read.j1 k y0) (portreeveref08_Read.j1 (k + 1) y0)) ∧ (∀ y0 y1, LeO (portreeveref08_Read.j2 k y0 y1) (portreeveref08_Read.j2 (k + 1) y0 y1))
 | 0 => ⟨fun _ _ r h => by simp [portreeveref08_Read.j0] at h, fun _ r h => by simp [portreeveref08_Read.j1] at h, fun _ _ r h => by simp [portreeveref08_Read.j2] at h⟩
 | k + 1 => by
  obtain ⟨ih0, ih1, ih2⟩ := portreeveref08_Read.mono_l k
  refine ⟨?_, ?_, ?_⟩
  ·intro y0 y1
   unfold portreeveref08_Read.j0
   repeat' first
   | (with_reducible exact ih0 _ _)
   | (with_reducible exact ih1 _)
   | (with_reducible exact ih2 _ _)
   | (with_reducible exact portreeveref01_Cut.mono _ _)
   | (with_reducible exact LeO.refl _)
   | (with_reducible exact LeO.none _)
   | (with_reducible refine LeO.ite ?_ ?_)
   | (with_reducible refine LeO.bind ?_ (fun _ => ?_))
   | exact ih0 _ _
   | exact ih1 _
   | exact ih2 _ _
   | exact portreeveref01_Cut.mono _ _
   | exact LeO.none _
   | refine LeO.ite ?_ ?_
   | refine LeO.bind ?_ (fun _ => ?_)
  ·intro y0
   unfold portreeveref08_Read.j1
   repeat' first
   | (with_reducible exact ih0 _ _)
   | (with_reducible exact ih1 _)
   | (with_reducible exact ih2 _ _)
   | (with_reducible exact portreeveref01_Cut.mono _ _)
   | (with_reducible exact LeO.refl _)
   | (with_reducible exact LeO.none _)
   | (with_reducible refine LeO.ite ?_ ?_)
   | (with_reducible refine LeO.bind ?_ (fun _ => ?_))
   | exact ih0 _ _
   | exact ih1 _
   | exact ih2 _ _
   | exact portreeveref01_Cut.mono _ _
   | exact LeO.none _
   | refine LeO.ite ?_ ?_
   | refine LeO.bind ?_ (fun _ => ?_)
  ·intro y0 y1
   unfold portreeveref08_Read.j2
   repeat' first
   | (with_reducible exact ih0 _ _)
   | (with_reducible exact ih1 _)
   | (with_reducible exact ih2 _ _)
   | (with_reducible exact portreeveref01_Cut.mono _ _)
   | (with_reducible exact LeO.refl _)
   | (with_reducible exact LeO.none _)
   | (with_reducible refine LeO.ite ?_ ?_)
   | (with_reducible refine LeO.bind ?_ (fun _ => ?_))
   | exact ih0 _ _
   | exact ih1 _
   | exact ih2 _ _
   | exact portreeveref01_Cut.mono _ _
   | exact LeO.none _
   | refine LeO.ite ?_ ?_
   | refine LeO.bind ?_ (fun _ => ?_)
theorem portreeveref08_Read.mono : ∀ a0 k, LeO (portreeveref08_Read.f k a0) (portreeveref08_Read.f (k + 1) a0) := by
 intro a0 k
 obtain ⟨ih0, ih1, ih2⟩ := portreeveref08_Read.mono_l k
 unfold portreeveref08_Read.f
 repeat' first
   | (with_reducible exact ih0 _ _)
   | (with_reducible exact ih1 _)
   | (with_reducible exact ih2 _ _)
   | (with_reducible exact portreeveref01_Cut.mono _ _)
   | (with_reducible exact LeO.refl _)
   | (with_reducible exact LeO.none _)
   | (with_reducible refine LeO.ite ?_ ?_)
   | (with_reducible refine LeO.bind ?_ (fun _ => ?_))
   | exact ih0 _ _
   | exact ih1 _
   | exact ih2 _ _
   | exact portreeveref01_Cut.mono _ _
   | exact LeO.none _
   | refine LeO.ite ?_ ?_
   | refine LeO.bind ?_ (fun _ => ?_)
set_option maxHeartbeats 8000000 in
set_option maxRecDepth 100000 in
theorem portreeveref08_Read.calls (k : Nat) (P0_ : Nat → Prop) (A0 : Option Addr) (c0 : Nat) (l0 : List Int) (r1 : Int) (r2 : List Int) (r3 : Int) (w : World) (hs0 : Kd.V (Kd.int .u8) 5 w w.heap.size (fun k_ => P0_ k_) (.slice A0 l0.length c0) l0) (h : portreeveref08_Read.f k l0 = some (r1, r2, r3)) :
  Calls Try.prog 29 #[.slice A0 l0.length c0] w fun e w' => ∃ v1_ : Value, e = .returned (.tuple #[.agg #[.int .u16 r1, v1_], .int .i64 r3]) ∧ Kd.V (Kd.int .u8) 5 w' w.heap.size (fun k_ => (P0_ k_ ∨ w.heap.size ≤ k_)) v1_ r2 ∧ Below w.heap.size w w' := by
 have hu25 := Try.underlying25
 have HO0 := Aside0.mk (show Kd.V (Kd.int .u8) 5 w w.heap.size (fun k_ => (P0_ k_ ∨ w.heap.size ≤ k_)) (.slice A0 l0.length c0) l0 from Kd.V_mono hs0 (fun k_ hk => .inl hk))
 have HB := Aside0.mk (Below.refl w.heap.size w)
 have H : ((portreeveref01_Cut.f k l0).bind fun bt341 => (if bt341.2 = 0 then (if (bt341.1.length : Int) ≥ 2 then (if 0 < (bt341.1.length : Int) then (if (rd bt341.1 0) = 255 then (if 1 < (bt341.1.length : Int) then (portreeveref08_Read.j0 k bt341.1 ((rd bt341.1 1) == 3)) else (none)) else (portreeveref08_Read.j0 k bt341.1 false)) else (none)) else (portreeveref08_Read.j0 k bt341.1 false)) else (some (0, ([] : List Int), bt341.2)))) = some (r1, r2, r3) := h
 clear h
 replace H := Option.bind_eq_some_iff.mp H
 obtain ⟨⟨t341, t344⟩, A20, H⟩ := H
 replace H : (if t344 = 0 then (if (t341.length : Int) ≥ 2 then (if 0 < (t341.length : Int) then (if (rd t341 0) = 255 then (if 1 < (t341.length : Int) then (portreeveref08_Read.j0 k t341 ((rd t341 1) == 3)) else (none)) else (portreeveref08_Read.j0 k t341 false)) else (none)) else (portreeveref08_Read.j0 k t341 false)) else (some (0, ([] : List Int), t344))) = some (r1, r2, r3) := H
 have A2 := Aside0.mk A20
 clear A20
 by_cases c3 : t344 = 0
 ·rw [if_pos c3] at H
  have c3b0 : (t344 == 0) = true := beq_iff_eq.mpr c3
  have c3b1 : (t344 != 0) = false := bne_eq_false_iff_eq.mpr c3
  clear c3
  have HC4 := Aside0.mk H
  clear H
  go_enter Try.func29, Try.ntmps29
  go_upto_region 4 with (first | ((with_reducible refine gate_dst (N := 2) rfl ?_); refine box_event ?hg (N := 2) ?hd (cs := #[.int .u16 0, .slice none 0 0]) (t := 25) ?hr ?_; (case hd => rfl); (case hg => rfl); (case hr => first | (go_simp; done) | (go_simp; rfl)); intro gb340 hg w5 hbox hb; have n0_ := Aside0.mk (Kd.V_below (Kd.V_elderB (zV HO0.out) gb340 (Nat.le_of_eq hg.symm)) hb); have n1_ := Aside0.mk (below_step (zH HB.out) hb); have n2_ := Aside0.mk (hbox); have n3_ := Aside0.mk ((by rw [hg]; exact (below_size (zH HB.out)) : w.heap.size ≤ gb340)); have n4_ := Aside0.mk ((by rw [hg]; exact (below_size (zH HB.out)) : w.heap.size ≤ gb340)); clear HO0; clear HB; have HO0 := n0_; have HB := n1_; have BK340 := n2_; have GW340 := n3_; have GE340 := n4_; clear n0_ n1_ n2_ n3_ n4_; clear hb hbox hg) | ((with_reducible refine gate_callee (f := 40) rfl ?_); refine goesL_ (some 11) rfl rfl Try.func40 (by kernel_rfl) rfl #[.slice A0 l0.length c0] rfl (by (try simp only [List.map_toArray, List.map_cons, List.map_nil]); first | done | rfl | (simp only [List.length_drop, List.length_take]; rfl)) ?_; (with_reducible refine (portreeveref01_Cut.calls k (fun k_ => ((P0_ k_ ∨ w.heap.size ≤ k_) ∧ k_ ≠ gb340)) _ _ l0 t341 t344 _ ?side1 A2.out).mono ?_); (case side1 => exact HO0.out); rintro e w6 ⟨v342, rfl, ho0, hb⟩; refine ⟨_, rfl, ?_⟩; have n0_ := Aside0.mk (Kd.V_below (zV HO0.out) hb); have n1_ := Aside0.mk (Kd.V_lower (Kd.V_mono (ok' := fun k_ => (P0_ k_ ∨ w.heap.size ≤ k_) ∧ k_ ≠ gb340) ho0 (fun k_ hk_ => ⟨Or.elim hk_ (fun hs_ => hs_.1) (fun hn_ => (.inr (Nat.le_trans (below_size (by repeat (first | (with_reducible first | exact HB.out | apply pA | apply pN | apply pD | refine pS ?_ GE340.out) | exact HB.out))) hn_))), Or.elim hk_ (fun hs_ => hs_.2) (fun hn_ => (Kd.freshB (g := gb340) (o := .cells #[.int .u16 0, .slice none 0 0] 25 (0, 0)) (zB BK340.out) k_ hn_))⟩)) (below_size (by repeat (first | (with_reducible first | exact HB.out | apply pA | apply pN | apply pD | refine pS ?_ GE340.out) | exact HB.out)))); have n2_ := Aside0.mk (blk_below (g := gb340) (o := .cells #[.int .u16 0, .slice none 0 0] 25 (0, 0)) (zB BK340.out) hb); have n3_ := Aside0.mk (below_step (by repeat (first | (with_reducible first | exact HB.out | apply pA | apply pN | apply pD | refine pS ?_ GE340.out) | exact HB.out)) hb); clear HO0; clear BK340; clear HB; have HO0 := n0_; have HO343 := n1_; have BK340 := n2_; have HB := n3_; clear n0_ n1_ n2_ n3_; (try clear hb); (try clear hb2); (try clear hk); (try clear hi); (try clear ho0)))
  (try simp only [Act.put, sT, s0, s1])
  go_cut [32] (fun v32 wc => ∃ (kq : Nat) (x32_3 : Bool), v32 = .bool x32_3 ∧ Aside0 (portreeveref08_Read.j0 kq t341 x32_3 = some (r1, r2, r3)) ∧ Aside0 (kq ≤ k) ∧ Aside0 (Kd.V (Kd.int .u8) 5 wc w.heap.size (fun k_ => (P0_ k_ ∨ w.heap.size ≤ k_) ∧ k_ ≠ gb340) v342 t341) ∧ Aside0 (wc.heap[gb340]? = some (.cells #[.int .u16 0, (.slice none 0 0)] 25 (0, 0))) ∧ Aside0 (Below w.heap.size w wc))
  case first =>
   have H := HC4.out
   clear HC4
   by_cases c7 : (t341.length : Int) ≥ 2
   ·rw [if_pos c7] at H
    have c7b0 : decide (2 ≤ (t341.length : Int)) = true := decide_eq_true c7
    have c7b1 : decide (2 ≤ t341.length) = true := decide_eq_true (by omega)
    clear c7
    (first | rw [c7b0] | (simp only [i64_w, i32_w]; rw [c7b0]) | skip)
    by_cases c8 : 0 < (t341.length : Int)
    ·rw [if_pos c8] at H
     have c8b0 : decide (0 < (t341.length : Int)) = true := decide_eq_true c8
     have c8b1 : decide (0 < t341.length) = true := decide_eq_true (by omega)
     clear c8
     by_cases c9 : (rd t341 0) = 255
     ·rw [if_pos c9] at H
      have c9b0 : ((rd t341 0) == 255) = true := beq_iff_eq.mpr c9
      have c9b1 : ((rd t341 0) != 255) = false := bne_eq_false_iff_eq.mpr c9
      clear c9
      by_cases c10 : 1 < (t341.length : Int)
      ·rw [if_pos c10] at H
       have c10b0 : decide (1 < (t341.length : Int)) = true := decide_eq_true c10
       have c10b1 : decide (1 < t341.length) = true := decide_eq_true (by omega)
       clear c10
       have H' := Aside0.mk H
       clear H
       obtain ⟨Ao11, co11, eo11⟩ := Kd.V_slice HO343.out
       subst eo11
       have p345 : 0 ≤ (0 : Int) := (by omega)
       have q345 : 0 < (t341.length : Int) := of_decide_eq_true (by first | (with_reducible assumption) | assumption)
       obtain ⟨ad345, e345, hx345_0⟩ := Kd.at_int (Kd.V_reads' HO343.out).2.2 0 p345 q345
       cases e345
       have qi345 : (0 < t341.length) = True := eq_true (by omega)
       (try rw [show ((0 : Int)).toNat = 0 from rfl] at hx345_0)
       (try rw [Addr.add_zero'] at hx345_0)
       replace p345 := eq_true p345
       replace q345 := eq_true q345
       have p346 : 0 ≤ (1 : Int) := (by omega)
       have q346 : 1 < (t341.length : Int) := of_decide_eq_true (by first | (with_reducible assumption) | assumption)
       obtain ⟨ad346, e346, hx346_0⟩ := Kd.at_int (Kd.V_reads' HO343.out).2.2 1 p346 q346
       obtain rfl : ad345 = ad346 := (by injection e346)
       (try simp only [show (1 : Int).toNat = 1 from rfl, Nat.reduceMul, Nat.reduceEqDiff, Go.Addr.add, ↓reduceIte] at hx346_0)
       have qi346 : (1 < t341.length) = True := eq_true (by omega)
       (try rw [show ((1 : Int)).toNat = 1 from rfl] at hx346_0)
       replace p346 := eq_true p346
       replace q346 := eq_true q346
       go_wp2
       go_meet
       case rel => exact ⟨_, (((rd t341 1) == 3)), (by first | rfl | (simp; done) | (simp [*]; done)), H', ⟨by first | omega | exact Nat.le_refl _⟩, ⟨zV HO343.out⟩, ⟨zB BK340.out⟩, ⟨by repeat (first | (with_reducible first | exact HB.out | apply pA | apply pN | apply pD | refine pS ?_ GE340.out) | exact HB.out)⟩⟩
      ·rw [if_neg c10] at H
       exact absurd H (by simp)
     ·rw [if_neg c9] at H
      have c9b0 : ((rd t341 0) == 255) = false := beq_eq_false_iff_ne.mpr c9
      have c9b1 : ((rd t341 0) != 255) = true := bne_iff_ne.mpr c9
      have H' := Aside0.mk H
      clear H
      obtain ⟨Ao12, co12, eo12⟩ := Kd.V_slice HO343.out
      subst eo12
      have p345 : 0 ≤ (0 : Int) := (by omega)
      have q345 : 0 < (t341.length : Int) := of_decide_eq_true (by first | (with_reducible assumption) | assumption)
      obtain ⟨ad345, e345, hx345_0⟩ := Kd.at_int (Kd.V_reads' HO343.out).2.2 0 p345 q345
      cases e345
      have qi345 : (0 < t341.length) = True := eq_true (by omega)
      (try rw [show ((0 : Int)).toNat = 0 from rfl] at hx345_0)
      (try rw [Addr.add_zero'] at hx345_0)
      replace p345 := eq_true p345
      replace q345 := eq_true q345
      go_wp2
      go_meet
      case rel => exact ⟨_, (false), (by first | rfl | (simp; done) | (simp [*]; done)), H', ⟨by first | omega | exact Nat.le_refl _⟩, ⟨zV HO343.out⟩, ⟨zB BK340.out⟩, ⟨by repeat (first | (with_reducible first | exact HB.out | apply pA | apply pN | apply pD | refine pS ?_ GE340.out) | exact HB.out)⟩⟩
    ·rw [if_neg c8] at H
     exact absurd H (by simp)
   ·rw [if_neg c7] at H
    have c7b0 : decide (2 ≤ (t341.length : Int)) = false := decide_eq_false c7
    have c7b1 : decide (2 ≤ t341.length) = false := decide_eq_false (by omega)
    clear c7
    (first | rw [c7b0] | (simp only [i64_w, i32_w]; rw [c7b0]) | skip)
    have H' := Aside0.mk H
    clear H
    obtain ⟨Ao13, co13, eo13⟩ := Kd.V_slice HO343.out
    subst eo13
    go_wp2
    go_meet
    case rel => exact ⟨_, (false), (by first | rfl | (simp; done) | (simp [*]; done)), H', ⟨by first | omega | exact Nat.le_refl _⟩, ⟨zV HO343.out⟩, ⟨zB BK340.out⟩, ⟨by repeat (first | (with_reducible first | exact HB.out | apply pA | apply pN | apply pD | refine pS ?_ GE340.out) | exact HB.out)⟩⟩
  case rest =>
   clear HC4
   try clear c1
   try clear c2
   try clear p2
   try clear c3
   try clear c3b0
   try clear c3b1
   try clear p3
   try clear q3
   try clear hx3
   try clear qi3
   try clear c4
   try clear c7
   try clear c7b0
   try clear c7b1
   try clear c8
   try clear c8b0
   try clear c8b1
   try clear c9
   try clear c9b0
   try clear c9b1
   try clear c10
   try clear c10b0
   try clear c10b1
   try clear hx345_0
   try clear hx346_0
   try clear p345
   try clear p346
   try clear q345
   try clear q346
   obtain ⟨kq, x32_3, rfl, HA, HJ3, HO_4, BK340, HB⟩ := hcut
   cases kq with
   | zero => exact absurd HA.out (by simp [portreeveref08_Read.j0])
   | succ kj3 =>
    have H := HA.out
    clear HA
    simp only [portreeveref08_Read.j0] at H
    have HC14 := Aside0.mk H
    clear H
    go_upto_if 32 with (fail)
    go_cut [4] (fun v4 wc => ∃ (kq : Nat) (x4_13 : List Int), Aside0 (portreeveref08_Read.j1 kq x4_13 = some (r1, r2, r3)) ∧ Aside0 (kq ≤ kj3) ∧ Aside0 (Kd.V (Kd.int .u8) 5 wc w.heap.size (fun k_ => (P0_ k_ ∨ w.heap.size ≤ k_) ∧ k_ ≠ gb340) v4 x4_13) ∧ Aside0 (wc.heap[gb340]? = some (.cells #[.int .u16 0, (.slice none 0 0)] 25 (0, 0))) ∧ Aside0 (Below w.heap.size w wc))
    case first =>
     have H := HC14.out
     clear HC14
     by_cases c15 : x32_3 = true
     ·subst c15
      have H1 : (if 2 ≤ (t341.length : Int) then (portreeveref08_Read.j1 kj3 (t341.drop 2)) else (none)) = some (r1, r2, r3) := by rw [if_pos rfl] at H; exact H
      clear H
      have H := H1
      clear H1
      by_cases c16 : 2 ≤ (t341.length : Int)
      ·rw [if_pos c16] at H
       have c16b0 := eq_true c16
       have c16b1 : decide (2 ≤ (t341.length : Int)) = true := decide_eq_true c16
       clear c16
       obtain ⟨y347, hy347⟩ : ∃ y_ : List Int, y_ = (t341.drop 2) := ⟨_, rfl⟩
       replace H : (portreeveref08_Read.j1 kj3 y347) = some (r1, r2, r3) := by first | (rw [hy347]; with_reducible exact H) | (have H2_ := (Option.bind_some _ _).symm.trans H; rw [hy347]; with_reducible exact H2_) | (have H2_ := (Option.bind_some _ _).symm.trans H; with_reducible exact H2_) | with_reducible exact H | (rw [hy347]; exact H) | exact H
       have Ny347 := Aside0.mk hy347
       clear hy347
       have H' := Aside0.mk H
       clear H
       obtain ⟨Ao18, co18, eo18⟩ := Kd.V_slice HO_4.out
       subst eo18
       have q17 : (2 : Int) ≤ ((t341.length : Int) : Int) := of_decide_eq_true (by first | (with_reducible assumption) | assumption)
       obtain ⟨i017, hi017, _, hsz17, _⟩ := info_parts info5
       have hroom17 : t341.length ≤ co18 := (Kd.V_reads' HO_4.out).2.1
       have hC17 : Kd.F (Kd.int .u8) _ _ Ao18 t341.length t341 := (Kd.V_at (base := w.heap.size) HO_4.out).2.2
       have hcut17 := cut_from (P := Try.prog) 23 5 .i64 Try.underlying23 hi017 1 hsz17 Ao18 t341.length co18 2 (by omega) q17
       have hr17 := Kd.F_cut (m := (2 : Int).toNat) (c := co18) hC17 (by omega) hroom17
       obtain ⟨A17, hA17⟩ : ∃ A1, A1 = (if co18 = (2 : Int).toNat then Ao18 else (Ao18 : Option Addr).map (·.add ((2 : Int).toNat * 1))) := ⟨_, rfl⟩
       obtain ⟨c17, hc17⟩ : ∃ c1, c1 = co18 - (2 : Int).toNat := ⟨_, rfl⟩
       have hy17 : y347.length = t341.length - (2 : Int).toNat := (by rw [Ny347.out, List.length_drop] <;> omega)
       rw [show (t341).drop (2 : Int).toNat = y347 from Ny347.out.symm] at hr17
       replace hr17 : Kd.F (Kd.int .u8) _ _ A17 y347.length y347 := (by rw [hA17]; exact hr17)
       rw [← hy17, ← hA17, ← hc17] at hcut17
       have HO351 := Aside0.mk (show Kd.V (Kd.int .u8) 5 _ w.heap.size _ (.slice A17 y347.length c17) y347 from Kd.V_mk (by rw [hy17, hc17]; exact Nat.sub_le_sub_right hroom17 _) hr17)
       have HC351 := Aside0.mk (show y347.length ≤ c17 from by rw [hy17, hc17]; exact Nat.sub_le_sub_right hroom17 _)
       clear hr17 hC17 hroom17 hi017 hsz17 hc17
       have KY17 := Aside0.mk hy17
       have KA17 := Aside0.mk hA17
       clear hy17 hA17
       replace q17 := eq_true q17
       go_wp2
       go_meet
       case rel => exact ⟨_, (y347), H', ⟨by have := HJ3.out; first | omega | exact Nat.le_refl _⟩, ⟨zV HO351.out⟩, ⟨zB BK340.out⟩, ⟨by repeat (first | (with_reducible first | exact HB.out | apply pA | apply pN | apply pD | refine pS ?_ GE340.out) | exact HB.out)⟩⟩
      ·rw [if_neg c16] at H
       exact absurd H (by simp)
     ·replace c15 := Bool.eq_false_iff.mpr c15
      subst c15
      have H1 : (portreeveref08_Read.j1 kj3 t341) = some (r1, r2, r3) := by rw [if_neg (show ¬ (false = true) by decide)] at H; exact H
      clear H
      have H := H1
      clear H1
      have H' := Aside0.mk H
      clear H
      go_wp2
      go_meet
      case rel => exact ⟨_, (t341), H', ⟨by have := HJ3.out; first | omega | exact Nat.le_refl _⟩, ⟨zV HO_4.out⟩, ⟨zB BK340.out⟩, ⟨by repeat (first | (with_reducible first | exact HB.out | apply pA | apply pN | apply pD | refine pS ?_ GE340.out) | exact HB.out)⟩⟩
    case rest =>
     clear HC14
     try clear c1
     try clear q1
     try clear c2
     try clear p2
     try clear c3
     try clear c3b0
     try clear c3b1
     try clear p3
     try clear q3
     try clear hx3
     try clear qi3
     try clear c4
     try clear c7
     try clear c7b0
     try clear c7b1
     try clear c8
     try clear c8b0
     try clear c8b1
     try clear c9
     try clear c9b0
     try clear c9b1
     try clear c10
     try clear c10b0
     try clear c10b1
     try clear c15
     try clear c16
     try clear c16b0
     try clear c16b1
     try clear c17
     try clear q17
     try clear hx345_0
     try clear hx346_0
     try clear p2
     try clear p3
     try clear p345
     try clear p346
     try clear q17
     try clear q3
     try clear q345
     try clear q346
     obtain ⟨kq, x4_13, HA, HJ13, HO_4, BK340, HB⟩ := hcut
     cases kq with
     | zero => exact absurd HA.out (by simp [portreeveref08_Read.j1])
     | succ kj13 =>
      have H := HA.out
      clear HA
      simp only [portreeveref08_Read.j1] at H
      by_cases c19 : (x4_13.length : Int) = 0
      ·rw [if_pos c19] at H
       have c19b0 : ((x4_13.length : Int) == 0) = true := beq_iff_eq.mpr c19
       have c19b1 : ((x4_13.length : Int) != 0) = false := bne_eq_false_iff_eq.mpr c19
       clear c19
       simp only [Option.some.injEq, Prod.mk.injEq] at H
       obtain ⟨rfl, rfl, rfl⟩ := H
       obtain ⟨Ao20, co20, eo20⟩ := Kd.V_slice HO_4.out
       subst eo20
       obtain ⟨hcz21_0, hcz21_1, hfz21_0, hfz21_1⟩ := bk2 BK340.out
       go_wp2
       refine bodyPost_ret (results_ct rfl _ _ gb340 25 #[.int .u16 0, .slice none 0 0] (0, 0) _ rfl (by (with_reducible repeat (first | refine qN ?_ _ | refine qD ?_ | refine qA ?_ _)); refine blk_put (cs := #[.int .u16 0, .slice none 0 0]) ?_ 1 _ rfl; (with_reducible repeat (first | refine qN ?_ _ | refine qD ?_ | refine qA ?_ _)); refine blk_put (cs := #[.int .u16 0, .slice none 0 0]) ?_ 0 _ rfl; (with_reducible repeat (first | refine qN ?_ _ | refine qD ?_ | refine qA ?_ _)); exact BK340.out) Try.underlying25 rfl (by kernel_rfl)) rfl ?_
       exact ⟨_, by first | rfl | (simp [errW_none, errW_some] <;> rfl) | (simp [*, errW_none, errW_some] <;> rfl), (Kd.V_nil _ _ _ _ _), by repeat (first | (with_reducible first | exact HB.out | apply pA | apply pN | apply pD | refine pS ?_ GE340.out) | exact HB.out)⟩
      ·rw [if_neg c19] at H
       have c19b0 : ((x4_13.length : Int) == 0) = false := beq_eq_false_iff_ne.mpr c19
       have c19b1 : ((x4_13.length : Int) != 0) = true := bne_iff_ne.mpr c19
       have c19b2 : ¬ (x4_13 = []) := fun h_ => c19 (by rw [h_]; rfl)
       by_cases c22 : 0 < (x4_13.length : Int)
       ·rw [if_pos c22] at H
        have c22b0 : decide (0 < (x4_13.length : Int)) = true := decide_eq_true c22
        have c22b1 : decide (0 < x4_13.length) = true := decide_eq_true (by omega)
        clear c22
        by_cases c23 : 1 ≤ (x4_13.length : Int)
        ·rw [if_pos c23] at H
         have c23b0 := eq_true c23
         have c23b1 : decide (1 ≤ (x4_13.length : Int)) = true := decide_eq_true c23
         clear c23
         obtain ⟨y353, hy353⟩ : ∃ y_ : List Int, y_ = (x4_13.drop 1) := ⟨_, rfl⟩
         replace H : (if (Int.tmod (IntKind.u16.wrap (rd x4_13 0)) 2) = 0 then (if (x4_13.length : Int) < 2 then (some (0, ([] : List Int), 2)) else (if 1 < (x4_13.length : Int) then (if 2 ≤ (x4_13.length : Int) then (portreeveref08_Read.j2 kj13 (IntKind.u16.wrap ((IntKind.u16.wrap ((IntKind.u16.wrap (rd x4_13 0)) * 256)) + (IntKind.u16.wrap (rd x4_13 1)))) (x4_13.drop 2)) else (none)) else (none))) else (portreeveref08_Read.j2 kj13 (IntKind.u16.wrap (rd x4_13 0)) y353)) = some (r1, r2, r3) := by first | (rw [hy353]; with_reducible exact H) | (have H2_ := (Option.bind_some _ _).symm.trans H; rw [hy353]; with_reducible exact H2_) | (have H2_ := (Option.bind_some _ _).symm.trans H; with_reducible exact H2_) | with_reducible exact H | (rw [hy353]; exact H) | exact H
         have Ny353 := Aside0.mk hy353
         clear hy353
         have HC24 := Aside0.mk H
         clear H
         obtain ⟨Ao25, co25, eo25⟩ := Kd.V_slice HO_4.out
         subst eo25
         have p352 : 0 ≤ (0 : Int) := (by omega)
         have q352 : 0 < (x4_13.length : Int) := of_decide_eq_true (by first | (with_reducible assumption) | assumption)
         obtain ⟨ad352, e352, hx352_0⟩ := Kd.at_int (Kd.V_reads' HO_4.out).2.2 0 p352 q352
         cases e352
         have qi352 : (0 < x4_13.length) = True := eq_true (by omega)
         (try rw [show ((0 : Int)).toNat = 0 from rfl] at hx352_0)
         (try rw [Addr.add_zero'] at hx352_0)
         replace p352 := eq_true p352
         replace q352 := eq_true q352
         have q26 : (1 : Int) ≤ ((x4_13.length : Int) : Int) := of_decide_eq_true (by first | (with_reducible assumption) | assumption)
         obtain ⟨i026, hi026, _, hsz26, _⟩ := info_parts info5
         have hroom26 : x4_13.length ≤ co25 := (Kd.V_reads' HO_4.out).2.1
         have hC26 : Kd.F (Kd.int .u8) _ _ (some ad352) x4_13.length x4_13 := (Kd.V_at (base := w.heap.size) HO_4.out).2.2
         have hcut26 := cut_from (P := Try.prog) 23 5 .i64 Try.underlying23 hi026 1 hsz26 (some ad352) x4_13.length co25 1 (by omega) q26
         have hr26 := Kd.F_cut (m := (1 : Int).toNat) (c := co25) hC26 (by omega) hroom26
         obtain ⟨A26, hA26⟩ : ∃ A1, A1 = (if co25 = (1 : Int).toNat then (some ad352) else ((some ad352) : Option Addr).map (·.add ((1 : Int).toNat * 1))) := ⟨_, rfl⟩
         obtain ⟨c26, hc26⟩ : ∃ c1, c1 = co25 - (1 : Int).toNat := ⟨_, rfl⟩
         have hy26 : y353.length = x4_13.length - (1 : Int).toNat := (by rw [Ny353.out, List.length_drop] <;> omega)
         rw [show (x4_13).drop (1 : Int).toNat = y353 from Ny353.out.symm] at hr26
         replace hr26 : Kd.F (Kd.int .u8) _ _ A26 y353.length y353 := (by rw [hA26]; exact hr26)
         rw [← hy26, ← hA26, ← hc26] at hcut26
         have HO357 := Aside0.mk (show Kd.V (Kd.int .u8) 5 _ w.heap.size _ (.slice A26 y353.length c26) y353 from Kd.V_mk (by rw [hy26, hc26]; exact Nat.sub_le_sub_right hroom26 _) hr26)
         have HC357 := Aside0.mk (show y353.length ≤ c26 from by rw [hy26, hc26]; exact Nat.sub_le_sub_right hroom26 _)
         clear hr26 hC26 hroom26 hi026 hsz26 hc26
         have KY26 := Aside0.mk hy26
         have KA26 := Aside0.mk hA26
         clear hy26 hA26
         replace q26 := eq_true q26
         go_upto_if 47 with (fail)
         go_cut [6, 7] (fun v6 v7 wc => ∃ (kq : Nat) (x6_23 : Int) (x7_23 : List Int) (x341000_23 : Int), v6 = .int .u16 x6_23 ∧ Aside0 (portreeveref08_Read.j2 kq x6_23 x7_23 = some (r1, r2, r3)) ∧ Aside0 (kq ≤ kj13) ∧ Aside0 (Kd.V (Kd.int .u8) 5 wc w.heap.size (fun k_ => (P0_ k_ ∨ w.heap.size ≤ k_) ∧ k_ ≠ gb340) v7 x7_23) ∧ Aside0 (wc.heap[gb340]? = some (.cells #[.int .u16 x341000_23, (.slice none 0 0)] 25 (0, 0))) ∧ Aside0 (Below w.heap.size w wc))
         case first =>
          have H := HC24.out
          clear HC24
          by_cases c27 : (Int.tmod (IntKind.u16.wrap (rd x4_13 0)) 2) = 0
          ·rw [if_pos c27] at H
           have c27b0 : ((Int.tmod (IntKind.u16.wrap (rd x4_13 0)) 2) == 0) = true := beq_iff_eq.mpr c27
           have c27b1 : ((Int.tmod (IntKind.u16.wrap (rd x4_13 0)) 2) != 0) = false := bne_eq_false_iff_eq.mpr c27
           clear c27
           (first | rw [c27b0] | (simp only [i64_w, i32_w]; rw [c27b0]) | skip)
           by_cases c28 : (x4_13.length : Int) < 2
           ·rw [if_pos c28] at H
            have c28b0 : decide ((x4_13.length : Int) < 2) = true := decide_eq_true c28
            have c28b1 : decide (x4_13.length < 2) = true := decide_eq_true (by omega)
            clear c28
            simp only [Option.some.injEq, Prod.mk.injEq] at H
            obtain ⟨rfl, rfl, rfl⟩ := H
            obtain ⟨hcz29_0, hcz29_1, hfz29_0, hfz29_1⟩ := bk2 BK340.out
            go_wp2
            refine bodyPost_ret (results_ct rfl _ _ gb340 25 #[.int .u16 0, .slice none 0 0] (0, 0) _ rfl (by (with_reducible repeat (first | refine qN ?_ _ | refine qD ?_ | refine qA ?_ _)); refine blk_put (cs := #[.int .u16 0, .slice none 0 0]) ?_ 1 _ rfl; (with_reducible repeat (first | refine qN ?_ _ | refine qD ?_ | refine qA ?_ _)); refine blk_put (cs := #[.int .u16 0, .slice none 0 0]) ?_ 0 _ rfl; (with_reducible repeat (first | refine qN ?_ _ | refine qD ?_ | refine qA ?_ _)); exact BK340.out) Try.underlying25 rfl (by kernel_rfl)) rfl ?_
            exact ⟨_, by first | rfl | (simp [errW_none, errW_some] <;> rfl) | (simp [*, errW_none, errW_some] <;> rfl), (Kd.V_nil _ _ _ _ _), by repeat (first | (with_reducible first | exact HB.out | apply pA | apply pN | apply pD | refine pS ?_ GE340.out) | exact HB.out)⟩
           ·rw [if_neg c28] at H
            have c28b0 : decide ((x4_13.length : Int) < 2) = false := decide_eq_false c28
            have c28b1 : decide (x4_13.length < 2) = false := decide_eq_false (by omega)
            clear c28
            by_cases c30 : 1 < (x4_13.length : Int)
            ·rw [if_pos c30] at H
             have c30b0 : decide (1 < (x4_13.length : Int)) = true := decide_eq_true c30
             have c30b1 : decide (1 < x4_13.length) = true := decide_eq_true (by omega)
             clear c30
             by_cases c31 : 2 ≤ (x4_13.length : Int)
             ·rw [if_pos c31] at H
              have c31b0 := eq_true c31
              have c31b1 : decide (2 ≤ (x4_13.length : Int)) = true := decide_eq_true c31
              clear c31
              obtain ⟨y359, hy359⟩ : ∃ y_ : List Int, y_ = (x4_13.drop 2) := ⟨_, rfl⟩
              replace H : (portreeveref08_Read.j2 kj13 (IntKind.u16.wrap ((IntKind.u16.wrap ((IntKind.u16.wrap (rd x4_13 0)) * 256)) + (IntKind.u16.wrap (rd x4_13 1)))) y359) = some (r1, r2, r3) := by first | (rw [hy359]; with_reducible exact H) | (have H2_ := (Option.bind_some _ _).symm.trans H; rw [hy359]; with_reducible exact H2_) | (have H2_ := (Option.bind_some _ _).symm.trans H; with_reducible exact H2_) | with_reducible exact H | (rw [hy359]; exact H) | exact H
              have Ny359 := Aside0.mk hy359
              clear hy359
              have H' := Aside0.mk H
              clear H
              have p358 : 0 ≤ (1 : Int) := (by omega)
              have q358 : 1 < (x4_13.length : Int) := of_decide_eq_true (by first | (with_reducible assumption) | assumption)
              obtain ⟨ad358, e358, hx358_0⟩ := Kd.at_int (Kd.V_reads' HO_4.out).2.2 1 p358 q358
              obtain rfl : ad352 = ad358 := (by injection e358)
              (try simp only [show (1 : Int).toNat = 1 from rfl, Nat.reduceMul, Nat.reduceEqDiff, Go.Addr.add, ↓reduceIte] at hx358_0)
              have qi358 : (1 < x4_13.length) = True := eq_true (by omega)
              (try rw [show ((1 : Int)).toNat = 1 from rfl] at hx358_0)
              replace p358 := eq_true p358
              replace q358 := eq_true q358
              have q32 : (2 : Int) ≤ ((x4_13.length : Int) : Int) := of_decide_eq_true (by first | (with_reducible assumption) | assumption)
              obtain ⟨i032, hi032, _, hsz32, _⟩ := info_parts info5
              have hroom32 : x4_13.length ≤ co25 := (Kd.V_reads' HO_4.out).2.1
              have hC32 : Kd.F (Kd.int .u8) _ _ (some ad352) x4_13.length x4_13 := (Kd.V_at (base := w.heap.size) HO_4.out).2.2
              have hcut32 := cut_from (P := Try.prog) 23 5 .i64 Try.underlying23 hi032 1 hsz32 (some ad352) x4_13.length co25 2 (by omega) q32
              have hr32 := Kd.F_cut (m := (2 : Int).toNat) (c := co25) hC32 (by omega) hroom32
              obtain ⟨A32, hA32⟩ : ∃ A1, A1 = (if co25 = (2 : Int).toNat then (some ad352) else ((some ad352) : Option Addr).map (·.add ((2 : Int).toNat * 1))) := ⟨_, rfl⟩
              obtain ⟨c32, hc32⟩ : ∃ c1, c1 = co25 - (2 : Int).toNat := ⟨_, rfl⟩
              have hy32 : y359.length = x4_13.length - (2 : Int).toNat := (by rw [Ny359.out, List.length_drop] <;> omega)
              rw [show (x4_13).drop (2 : Int).toNat = y359 from Ny359.out.symm] at hr32
              replace hr32 : Kd.F (Kd.int .u8) _ _ A32 y359.length y359 := (by rw [hA32]; exact hr32)
              rw [← hy32, ← hA32, ← hc32] at hcut32
              have HO363 := Aside0.mk (show Kd.V (Kd.int .u8) 5 _ w.heap.size _ (.slice A32 y359.length c32) y359 from Kd.V_mk (by rw [hy32, hc32]; exact Nat.sub_le_sub_right hroom32 _) hr32)
              have HC363 := Aside0.mk (show y359.length ≤ c32 from by rw [hy32, hc32]; exact Nat.sub_le_sub_right hroom32 _)
              clear hr32 hC32 hroom32 hi032 hsz32 hc32
              have KY32 := Aside0.mk hy32
              have KA32 := Aside0.mk hA32
              clear hy32 hA32
              replace q32 := eq_true q32
              go_wp2
              go_meet
              case rel => exact ⟨_, (IntKind.u16.wrap ((IntKind.u16.wrap ((IntKind.u16.wrap (rd x4_13 0)) * 256)) + (IntKind.u16.wrap (rd x4_13 1)))), (y359), (0), (by first | rfl | (simp; done) | (simp [*]; done)), H', ⟨by have := HJ3.out; have := HJ13.out; first | omega | exact Nat.le_refl _⟩, ⟨zV HO363.out⟩, ⟨zB BK340.out⟩, ⟨by repeat (first | (with_reducible first | exact HB.out | apply pA | apply pN | apply pD | refine pS ?_ GE340.out) | exact HB.out)⟩⟩
             ·rw [if_neg c31] at H
              exact absurd H (by simp)
            ·rw [if_neg c30] at H
             exact absurd H (by simp)
          ·rw [if_neg c27] at H
           have c27b0 : ((Int.tmod (IntKind.u16.wrap (rd x4_13 0)) 2) == 0) = false := beq_eq_false_iff_ne.mpr c27
           have c27b1 : ((Int.tmod (IntKind.u16.wrap (rd x4_13 0)) 2) != 0) = true := bne_iff_ne.mpr c27
           (first | rw [c27b0] | (simp only [i64_w, i32_w]; rw [c27b0]) | skip)
           have H' := Aside0.mk H
           clear H
           go_wp2
           go_meet
           case rel => exact ⟨_, (IntKind.u16.wrap (rd x4_13 0)), (y353), (0), (by first | rfl | (simp; done) | (simp [*]; done)), H', ⟨by have := HJ3.out; have := HJ13.out; first | omega | exact Nat.le_refl _⟩, ⟨zV HO357.out⟩, ⟨zB BK340.out⟩, ⟨by repeat (first | (with_reducible first | exact HB.out | apply pA | apply pN | apply pD | refine pS ?_ GE340.out) | exact HB.out)⟩⟩
         case rest =>
          clear HC24
          try clear c1
          try clear q1
          try clear c2
          try clear p2
          try clear q2
          try clear c3
          try clear c3b0
          try clear c3b1
          try clear p3
          try clear q3
          try clear hx3
          try clear qi3
          try clear c4
          try clear c7
          try clear c7b0
          try clear c7b1
          try clear c8
          try clear c8b0
          try clear c8b1
          try clear c9
          try clear c9b0
          try clear c9b1
          try clear c10
          try clear c10b0
          try clear c10b1
          try clear c15
          try clear c16
          try clear c16b0
          try clear c16b1
          try clear c17
          try clear q17
          try clear c19
          try clear c19b0
          try clear c19b1
          try clear c19b2
          try clear c22
          try clear c22b0
          try clear c22b1
          try clear c23
          try clear c23b0
          try clear c23b1
          try clear c26
          try clear q26
          try clear c27
          try clear c27b0
          try clear c27b1
          try clear c28
          try clear c28b0
          try clear c28b1
          try clear c29
          try clear c30
          try clear c30b0
          try clear c30b1
          try clear c31
          try clear c31b0
          try clear c31b1
          try clear c32
          try clear q32
          try clear hcz21_0
          try clear hcz21_1
          try clear hcz29_0
          try clear hcz29_1
          try clear hfz21_0
          try clear hfz21_1
          try clear hfz29_0
          try clear hfz29_1
          try clear hx345_0
          try clear hx346_0
          try clear hx352_0
          try clear hx358_0
          try clear p2
          try clear p3
          try clear p345
          try clear p346
          try clear p352
          try clear p358
          try clear q1
          try clear q17
          try clear q26
          try clear q3
          try clear q32
          try clear q345
          try clear q346
          try clear q352
          try clear q358
          obtain ⟨kq, x6_23, x7_23, x341000_23, rfl, HA, HJ23, HO_7, BK340, HB⟩ := hcut
          cases kq with
          | zero => exact absurd HA.out (by simp [portreeveref08_Read.j2])
          | succ kj23 =>
           have H := HA.out
           clear HA
           simp only [portreeveref08_Read.j2] at H
           replace H := Option.bind_eq_some_iff.mp H
           obtain ⟨t364, A330, H⟩ := H
           replace H : (if t364 = true then (if (x7_23.length : Int) > 1500 then (some (0, ([] : List Int), 4)) else (some (x6_23, x7_23, 0))) else (some (0, ([] : List Int), 2))) = some (r1, r2, r3) := H
           have A33 := Aside0.mk A330
           clear A330
           by_cases c34 : t364 = true
           ·subst c34
            have H1 : (if (x7_23.length : Int) > 1500 then (some (0, ([] : List Int), 4)) else (some (x6_23, x7_23, 0))) = some (r1, r2, r3) := by rw [if_pos rfl] at H; exact H
            clear H
            have H := H1
            clear H1
            by_cases c35 : (x7_23.length : Int) > 1500
            ·rw [if_pos c35] at H
             have c35b0 : decide (1500 < (x7_23.length : Int)) = true := decide_eq_true c35
             have c35b1 : decide (1500 < x7_23.length) = true := decide_eq_true (by omega)
             clear c35
             simp only [Option.some.injEq, Prod.mk.injEq] at H
             obtain ⟨rfl, rfl, rfl⟩ := H
             go_wp2_with (first | ((with_reducible refine gate_callee (f := 41) rfl ?_); refine goesL_ (some 62) rfl rfl Try.func41 (by kernel_rfl) rfl #[.int .u16 x6_23] rfl (by (try simp only [List.map_toArray, List.map_cons, List.map_nil]); first | done | rfl | (simp only [List.length_drop, List.length_take]; rfl)) ?_; (with_reducible refine (portreeveref08_Proto.calls x6_23 true _ A33.out).mono ?_); rintro e w' ⟨rfl, ⟨nd, rfl⟩⟩; refine ⟨_, rfl, ?_⟩; (try (rw [drewN_self wc]; generalize hq_ : World.drewN wc _ = wc; have n0_ : Aside0 (Kd.V (Kd.int .u8) 5 wc w.heap.size (fun k_ => (P0_ k_ ∨ w.heap.size ≤ k_) ∧ k_ ≠ gb340) u7 x7_23) := ⟨by rw [← hq_]; exact (zV HO_7.out)⟩; have n1_ : Aside0 (wc.heap[gb340]? = some (.cells #[.int .u16 x341000_23, .slice none 0 0] 25 (0, 0))) := ⟨by rw [← hq_]; exact (zB BK340.out)⟩; have n2_ : Aside0 (Below w.heap.size w wc) := ⟨by rw [← hq_]; exact (by repeat (first | (with_reducible first | exact HB.out | apply pA | apply pN | apply pD | refine pS ?_ GE340.out) | exact HB.out))⟩; clear HO_7 BK340 HB hq_; have HO_7 := n0_; have BK340 := n1_; have HB := n2_; clear n0_ n1_ n2_)); obtain ⟨Ao36, co36, eo36⟩ := Kd.V_slice HO_7.out; subst eo36; obtain ⟨hcz37_0, hcz37_1, hfz37_0, hfz37_1⟩ := bk2 BK340.out))
             refine bodyPost_ret (results_ct rfl _ _ gb340 25 #[.int .u16 0, .slice none 0 0] (0, 0) _ rfl (by (with_reducible repeat (first | refine qN ?_ _ | refine qD ?_ | refine qA ?_ _)); refine blk_put (cs := #[.int .u16 0, .slice none 0 0]) ?_ 1 _ rfl; (with_reducible repeat (first | refine qN ?_ _ | refine qD ?_ | refine qA ?_ _)); refine blk_put (cs := #[.int .u16 x341000_23, .slice none 0 0]) ?_ 0 _ rfl; (with_reducible repeat (first | refine qN ?_ _ | refine qD ?_ | refine qA ?_ _)); exact BK340.out) Try.underlying25 rfl (by kernel_rfl)) rfl ?_
             exact ⟨_, by first | rfl | (simp [errW_none, errW_some] <;> rfl) | (simp [*, errW_none, errW_some] <;> rfl), (Kd.V_nil _ _ _ _ _), by repeat (first | (with_reducible first | exact HB.out | apply pA | apply pN | apply pD | refine pS ?_ GE340.out) | exact HB.out)⟩
            ·rw [if_neg c35] at H
             have c35b0 : decide (1500 < (x7_23.length : Int)) = false := decide_eq_false c35
             have c35b1 : decide (1500 < x7_23.length) = false := decide_eq_false (by omega)
             clear c35
             simp only [Option.some.injEq, Prod.mk.injEq] at H
             obtain ⟨rfl, rfl, rfl⟩ := H
             go_wp2_with (first | ((with_reducible refine gate_callee (f := 41) rfl ?_); refine goesL_ (some 62) rfl rfl Try.func41 (by kernel_rfl) rfl #[.int .u16 x6_23] rfl (by (try simp only [List.map_toArray, List.map_cons, List.map_nil]); first | done | rfl | (simp only [List.length_drop, List.length_take]; rfl)) ?_; (with_reducible refine (portreeveref08_Proto.calls x6_23 true _ A33.out).mono ?_); rintro e w' ⟨rfl, ⟨nd, rfl⟩⟩; refine ⟨_, rfl, ?_⟩; (try (rw [drewN_self wc]; generalize hq_ : World.drewN wc _ = wc; have n0_ : Aside0 (Kd.V (Kd.int .u8) 5 wc w.heap.size (fun k_ => (P0_ k_ ∨ w.heap.size ≤ k_) ∧ k_ ≠ gb340) u7 x7_23) := ⟨by rw [← hq_]; exact (zV HO_7.out)⟩; have n1_ : Aside0 (wc.heap[gb340]? = some (.cells #[.int .u16 x341000_23, .slice none 0 0] 25 (0, 0))) := ⟨by rw [← hq_]; exact (zB BK340.out)⟩; have n2_ : Aside0 (Below w.heap.size w wc) := ⟨by rw [← hq_]; exact (by repeat (first | (with_reducible first | exact HB.out | apply pA | apply pN | apply pD | refine pS ?_ GE340.out) | exact HB.out))⟩; clear HO_7 BK340 HB hq_; have HO_7 := n0_; have BK340 := n1_; have HB := n2_; clear n0_ n1_ n2_)); obtain ⟨Ao38, co38, eo38⟩ := Kd.V_slice HO_7.out; subst eo38; obtain ⟨hcz39_0, hcz39_1, hfz39_0, hfz39_1⟩ := bk2 BK340.out))
             refine bodyPost_ret (results_ct rfl _ _ gb340 25 #[.int .u16 x6_23, .slice Ao38 x7_23.length co38] (0, 0) _ rfl (by (with_reducible repeat (first | refine qN ?_ _ | refine qD ?_ | refine qA ?_ _)); refine blk_put (cs := #[.int .u16 x6_23, .slice none 0 0]) ?_ 1 _ rfl; (with_reducible repeat (first | refine qN ?_ _ | refine qD ?_ | refine qA ?_ _)); refine blk_put (cs := #[.int .u16 x341000_23, .slice none 0 0]) ?_ 0 _ rfl; (with_reducible repeat (first | refine qN ?_ _ | refine qD ?_ | refine qA ?_ _)); exact BK340.out) Try.underlying25 rfl (by kernel_rfl)) rfl ?_
             exact ⟨_, by first | rfl | (simp [errW_none, errW_some] <;> rfl) | (simp [*, errW_none, errW_some] <;> rfl), zV (Kd.V_mono (Kd.V_far (p := ⟨gb340, 1, none⟩) (Kd.V_far (p := ⟨gb340, 0, none⟩) (Kd.V_mono HO_7.out (fun k_ hk => (⟨hk, hk.2⟩ : _ ∧ k_ ≠ gb340))) (fun _ hk => hk.2) (.int .u16 x6_23)) (fun _ hk => hk.2) (.slice Ao38 x7_23.length co38)) (fun _ hk => hk.1.1)), by repeat (first | (with_reducible first | exact HB.out | apply pA | apply pN | apply pD | refine pS ?_ GE340.out) | exact HB.out)⟩
           ·replace c34 := Bool.eq_false_iff.mpr c34
            subst c34
            have H1 : (some (0, ([] : List Int), 2)) = some (r1, r2, r3) := by rw [if_neg (show ¬ (false = true) by decide)] at H; exact H
            clear H
            have H := H1
            clear H1
            simp only [Option.some.injEq, Prod.mk.injEq] at H
            obtain ⟨rfl, rfl, rfl⟩ := H
            go_wp2_with (first | ((with_reducible refine gate_callee (f := 41) rfl ?_); refine goesL_ (some 62) rfl rfl Try.func41 (by kernel_rfl) rfl #[.int .u16 x6_23] rfl (by (try simp only [List.map_toArray, List.map_cons, List.map_nil]); first | done | rfl | (simp only [List.length_drop, List.length_take]; rfl)) ?_; (with_reducible refine (portreeveref08_Proto.calls x6_23 false _ A33.out).mono ?_); rintro e w' ⟨rfl, ⟨nd, rfl⟩⟩; refine ⟨_, rfl, ?_⟩; (try (rw [drewN_self wc]; generalize hq_ : World.drewN wc _ = wc; have n0_ : Aside0 (Kd.V (Kd.int .u8) 5 wc w.heap.size (fun k_ => (P0_ k_ ∨ w.heap.size ≤ k_) ∧ k_ ≠ gb340) u7 x7_23) := ⟨by rw [← hq_]; exact (zV HO_7.out)⟩; have n1_ : Aside0 (wc.heap[gb340]? = some (.cells #[.int .u16 x341000_23, .slice none 0 0] 25 (0, 0))) := ⟨by rw [← hq_]; exact (zB BK340.out)⟩; have n2_ : Aside0 (Below w.heap.size w wc) := ⟨by rw [← hq_]; exact (by repeat (first | (with_reducible first | exact HB.out | apply pA | apply pN | apply pD | refine pS ?_ GE340.out) | exact HB.out))⟩; clear HO_7 BK340 HB hq_; have HO_7 := n0_; have BK340 := n1_; have HB := n2_; clear n0_ n1_ n2_)); obtain ⟨hcz40_0, hcz40_1, hfz40_0, hfz40_1⟩ := bk2 BK340.out))
            refine bodyPost_ret (results_ct rfl _ _ gb340 25 #[.int .u16 0, .slice none 0 0] (0, 0) _ rfl (by (with_reducible repeat (first | refine qN ?_ _ | refine qD ?_ | refine qA ?_ _)); refine blk_put (cs := #[.int .u16 0, .slice none 0 0]) ?_ 1 _ rfl; (with_reducible repeat (first | refine qN ?_ _ | refine qD ?_ | refine qA ?_ _)); refine blk_put (cs := #[.int .u16 x341000_23, .slice none 0 0]) ?_ 0 _ rfl; (with_reducible repeat (first | refine qN ?_ _ | refine qD ?_ | refine qA ?_ _)); exact BK340.out) Try.underlying25 rfl (by kernel_rfl)) rfl ?_
            exact ⟨_, by first | rfl | (simp [errW_none, errW_some] <;> rfl) | (simp [*, errW_none, errW_some] <;> rfl), (Kd.V_nil _ _ _ _ _), by repeat (first | (with_reducible first | exact HB.out | apply pA | apply pN | apply pD | refine pS ?_ GE340.out) | exact HB.out)⟩
        ·rw [if_neg c23] at H
         exact absurd H (by simp)
       ·rw [if_neg c22] at H
        exact absurd H (by simp)
 ·rw [if_neg c3] at H
  have c3b0 : (t344 == 0) = false := beq_eq_false_iff_ne.mpr c3
  have c3b1 : (t344 != 0) = true := bne_iff_ne.mpr c3
  simp only [Option.some.injEq, Prod.mk.injEq] at H
  obtain ⟨rfl, rfl, rfl⟩ := H
  go_enter Try.func29, Try.ntmps29
  go_wp2_with (first | ((with_reducible refine gate_dst (N := 2) rfl ?_); refine box_event ?hg (N := 2) ?hd (cs := #[.int .u16 0, .slice none 0 0]) (t := 25) ?hr ?_; (case hd => rfl); (case hg => rfl); (case hr => first | (go_simp; done) | (go_simp; rfl)); intro gb340 hg w41 hbox hb; have n0_ := Aside0.mk (Kd.V_below (Kd.V_elderB (zV HO0.out) gb340 (Nat.le_of_eq hg.symm)) hb); have n1_ := Aside0.mk (below_step (zH HB.out) hb); have n2_ := Aside0.mk (hbox); have n3_ := Aside0.mk ((by rw [hg]; exact (below_size (zH HB.out)) : w.heap.size ≤ gb340)); have n4_ := Aside0.mk ((by rw [hg]; exact (below_size (zH HB.out)) : w.heap.size ≤ gb340)); clear HO0; clear HB; have HO0 := n0_; have HB := n1_; have BK340 := n2_; have GW340 := n3_; have GE340 := n4_; clear n0_ n1_ n2_ n3_ n4_; clear hb hbox hg) | ((with_reducible refine gate_callee (f := 40) rfl ?_); refine goesL_ (some 11) rfl rfl Try.func40 (by kernel_rfl) rfl #[.slice A0 l0.length c0] rfl (by (try simp only [List.map_toArray, List.map_cons, List.map_nil]); first | done | rfl | (simp only [List.length_drop, List.length_take]; rfl)) ?_; (with_reducible refine (portreeveref01_Cut.calls k (fun k_ => ((P0_ k_ ∨ w.heap.size ≤ k_) ∧ k_ ≠ gb340)) _ _ l0 t341 t344 _ ?side1 A2.out).mono ?_); (case side1 => exact HO0.out); rintro e w42 ⟨v342, rfl, ho0, hb⟩; refine ⟨_, rfl, ?_⟩; have n0_ := Aside0.mk (Kd.V_below (zV HO0.out) hb); have n1_ := Aside0.mk (Kd.V_lower (Kd.V_mono (ok' := fun k_ => (P0_ k_ ∨ w.heap.size ≤ k_) ∧ k_ ≠ gb340) ho0 (fun k_ hk_ => ⟨Or.elim hk_ (fun hs_ => hs_.1) (fun hn_ => (.inr (Nat.le_trans (below_size (by repeat (first | (with_reducible first | exact HB.out | apply pA | apply pN | apply pD | refine pS ?_ GE340.out) | exact HB.out))) hn_))), Or.elim hk_ (fun hs_ => hs_.2) (fun hn_ => (Kd.freshB (g := gb340) (o := .cells #[.int .u16 0, .slice none 0 0] 25 (0, 0)) (zB BK340.out) k_ hn_))⟩)) (below_size (by repeat (first | (with_reducible first | exact HB.out | apply pA | apply pN | apply pD | refine pS ?_ GE340.out) | exact HB.out)))); have n2_ := Aside0.mk (blk_below (g := gb340) (o := .cells #[.int .u16 0, .slice none 0 0] 25 (0, 0)) (zB BK340.out) hb); have n3_ := Aside0.mk (below_step (by repeat (first | (with_reducible first | exact HB.out | apply pA | apply pN | apply pD | refine pS ?_ GE340.out) | exact HB.out)) hb); clear HO0; clear BK340; clear HB; have HO0 := n0_; have HO343 := n1_; have BK340 := n2_; have HB := n3_; clear n0_ n1_ n2_ n3_; (try clear hb); (try clear hb2); (try clear hk); (try clear hi); (try clear ho0); obtain ⟨hcz43_0, hcz43_1, hfz43_0, hfz43_1⟩ := bk2 BK340.out))
  refine bodyPost_ret (results_ct rfl _ _ gb340 25 #[.int .u16 0, .slice none 0 0] (0, 0) _ rfl (by (with_reducible repeat (first | refine qN ?_ _ | refine qD ?_ | refine qA ?_ _)); refine blk_put (cs := #[.int .u16 0, .slice none 0 0]) ?_ 1 _ rfl; (with_reducible repeat (first | refine qN ?_ _ | refine qD ?_ | refine qA ?_ _)); refine blk_put (cs := #[.int .u16 0, .slice none 0 0]) ?_ 0 _ rfl; (with_reducible repeat (first | refine qN ?_ _ | refine qD ?_ | refine qA ?_ _)); exact BK340.out) Try.underlying25 rfl (by kernel_rfl)) rfl ?_
  exact ⟨_, by first | rfl | (simp [errW_none, errW_some] <;> rfl) | (simp [*, errW_none, errW_some] <;> rfl), (Kd.V_nil _ _ _ _ _), by repeat (first | (with_reducible first | exact HB.out | apply pA | apply pN | apply pD | refine pS ?_ GE340.out) | exact HB.out)⟩

/-! ### portreeveref08_Take: function 16 -/
def portreeveref08_Take.f (k : Nat) (l0_0 : List Int) (a0_1 : Bool) (a1 : Int) : Option (List Int × Bool × Int × List Int × Bool) := (portreeveref07_Feed.f k l0_0 a0_1 a1).bind fun bt368 => (if bt368.2.2.2 = true then ((portreeveref08_Read.f k bt368.2.2.1).bind fun bt377 => (some (bt368.1, bt368.2.1, bt377.1, bt377.2.1, (bt377.2.2 == 0)))) else (some (bt368.1, bt368.2.1, 0, ([] : List Int), false)))
theorem portreeveref08_Take.mono : ∀ a0 a1 a2 k, LeO (portreeveref08_Take.f k a0 a1 a2) (portreeveref08_Take.f (k + 1) a0 a1 a2) := by
 intro a0 a1 a2 k
 unfold portreeveref08_Take.f
 repeat' first
   | (with_reducible exact portreeveref07_Feed.mono _ _ _ _)
   | (with_reducible exact portreeveref08_Read.mono _ _)
   | (with_reducible exact LeO.refl _)
   | (with_reducible exact LeO.none _)
   | (with_reducible refine LeO.ite ?_ ?_)
   | (with_reducible refine LeO.bind ?_ (fun _ => ?_))
   | exact portreeveref07_Feed.mono _ _ _ _
   | exact portreeveref08_Read.mono _ _
   | exact LeO.none _
   | refine LeO.ite ?_ ?_
   | refine LeO.bind ?_ (fun _ => ?_)
set_option maxHeartbeats 8000000 in
set_option maxRecDepth 100000 in
theorem portreeveref08_Take.calls (k : Nat) (A0_0 : Option Addr) (c0_0 : Nat) (l0_0 : List Int) (a0_1 : Bool) (a1 : Int) (r1 : List Int) (r2 : Bool) (r3 : Int) (r4 : List Int) (r5 : Bool) (w : World) (hr0_0 : Kd.C (Kd.int .u8) w A0_0 l0_0.length l0_0) (hc0_0 : l0_0.length ≤ c0_0) (h : portreeveref08_Take.f k l0_0 a0_1 a1 = some (r1, r2, r3, r4, r5)) :
  Calls Try.prog 16 #[.agg #[.slice A0_0 l0_0.length c0_0, .bool a0_1], .int .u8 a1] w fun e w' => ∃ v0_ v3_ : Value, e = .returned (.tuple #[.agg #[v0_, .bool r2], .agg #[.int .u16 r3, v3_], .bool r5]) ∧ Kd.R (Kd.int .u8) 5 w' w.heap.size (fun k_ => (w.heap.size ≤ k_)) v0_ r1 ∧ Kd.V (Kd.int .u8) 5 w' w.heap.size (fun k_ => (w.heap.size ≤ k_) ∧ some k_ ≠ (v0_ : Value).ownBlock) v3_ r4 ∧ Below w.heap.size w w' := by
 have hu38 := Try.underlying38
 have hu25 := Try.underlying25
 have HR0_0 := Aside0.mk hr0_0
 have HC0_0 := Aside0.mk hc0_0
 clear hr0_0 hc0_0
 have HB := Aside0.mk (Below.refl w.heap.size w)
 have H : ((portreeveref07_Feed.f k l0_0 a0_1 a1).bind fun bt368 => (if bt368.2.2.2 = true then ((portreeveref08_Read.f k bt368.2.2.1).bind fun bt377 => (some (bt368.1, bt368.2.1, bt377.1, bt377.2.1, (bt377.2.2 == 0)))) else (some (bt368.1, bt368.2.1, 0, ([] : List Int), false)))) = some (r1, r2, r3, r4, r5) := h
 clear h
 replace H := Option.bind_eq_some_iff.mp H
 obtain ⟨⟨t368, t371, t372, t375⟩, A30, H⟩ := H
 replace H : (if t375 = true then ((portreeveref08_Read.f k t372).bind fun bt377 => (some (t368, t371, bt377.1, bt377.2.1, (bt377.2.2 == 0)))) else (some (t368, t371, 0, ([] : List Int), false))) = some (r1, r2, r3, r4, r5) := H
 have A3 := Aside0.mk A30
 clear A30
 by_cases c4 : t375 = true
 ·subst c4
  have H1 : ((portreeveref08_Read.f k t372).bind fun bt377 => (some (t368, t371, bt377.1, bt377.2.1, (bt377.2.2 == 0)))) = some (r1, r2, r3, r4, r5) := by rw [if_pos rfl] at H; exact H
  clear H
  have H := H1
  clear H1
  replace H := Option.bind_eq_some_iff.mp H
  obtain ⟨⟨t377, t378, t381⟩, A50, H⟩ := H
  replace H : (some (t368, t371, t377, t378, (t381 == 0))) = some (r1, r2, r3, r4, r5) := H
  have A5 := Aside0.mk A50
  clear A50
  simp only [Option.some.injEq, Prod.mk.injEq] at H
  obtain ⟨rfl, rfl, rfl, rfl, rfl⟩ := H
  go_enter Try.func16, Try.ntmps16
  try go_wp2_with (first | ((with_reducible refine gate_dst (N := 2) rfl ?_); refine box_event ?hg (N := 2) ?hd (cs := #[.slice A0_0 l0_0.length c0_0, .bool a0_1]) (t := 38) ?hr ?_; (case hd => rfl); (case hg => rfl); (case hr => first | (go_simp; done) | (go_simp; rfl)); intro gb365 hg w6 hbox hb; have n0_ := Aside0.mk (below_step (zH HB.out) hb); have n1_ := Aside0.mk (hbox); have n2_ := Aside0.mk ((by rw [hg]; exact (below_size (zH HB.out)) : w.heap.size ≤ gb365)); have n3_ := Aside0.mk ((by rw [hg]; exact (below_size (zH HB.out)) : w.heap.size ≤ gb365)); clear HB; have HB := n0_; have BK365 := n1_; have GW365 := n2_; have GE365 := n3_; clear n0_ n1_ n2_ n3_; clear hb hbox hg) | ((with_reducible refine gate_dst (N := 4) rfl ?_); refine box_event ?hg (N := 4) ?hd (cs := #[.slice none 0 0, .bool false]) (t := 38) ?hr ?_; (case hd => rfl); (case hg => rfl); (case hr => first | (go_simp; done) | (go_simp; rfl)); intro gb366 hg w7 hbox hb; have n0_ := Aside0.mk (blk_below (g := gb365) (o := .cells #[.slice A0_0 l0_0.length c0_0, .bool a0_1] 38 (0, 0)) (zB BK365.out) hb); have n1_ := Aside0.mk (below_step (by repeat (first | (with_reducible first | exact HB.out | apply pA | apply pN | apply pD | refine pS ?_ GE365.out) | exact HB.out)) hb); have n2_ := Aside0.mk (hbox); have n3_ := Aside0.mk ((by rw [hg]; exact (below_size (by repeat (first | (with_reducible first | exact HB.out | apply pA | apply pN | apply pD | refine pS ?_ GE365.out) | exact HB.out))) : w.heap.size ≤ gb366)); have n4_ := Aside0.mk ((by rw [hg]; exact (below_size (by repeat (first | (with_reducible first | exact HB.out | apply pA | apply pN | apply pD | refine pS ?_ GE365.out) | exact HB.out))) : w.heap.size ≤ gb366)); have n5_ := Aside0.mk ((by rw [hg]; exact Nat.ne_of_lt (blk_lt (g := gb365) (o := .cells #[.slice A0_0 l0_0.length c0_0, .bool a0_1] 38 (0, 0)) (zB BK365.out)) : gb365 ≠ gb366)); have n6_ := Aside0.mk ((by rw [hg]; exact Nat.ne_of_gt (blk_lt (g := gb365) (o := .cells #[.slice A0_0 l0_0.length c0_0, .bool a0_1] 38 (0, 0)) (zB BK365.out)) : gb366 ≠ gb365)); clear BK365; clear HB; have BK365 := n0_; have HB := n1_; have BK366 := n2_; have GW366 := n3_; have GE366 := n4_; have NB365_366 := n5_; have NB366_365 := n6_; clear n0_ n1_ n2_ n3_ n4_ n5_ n6_; clear hb hbox hg) | ((with_reducible refine gate_dst (N := 5) rfl ?_); refine box_event ?hg (N := 5) ?hd (cs := #[.int .u16 0, .slice none 0 0]) (t := 25) ?hr ?_; (case hd => rfl); (case hg => rfl); (case hr => first | (go_simp; done) | (go_simp; rfl)); intro gb367 hg w8 hbox hb; have n0_ := Aside0.mk (blk_below (g := gb365) (o := .cells #[.slice A0_0 l0_0.length c0_0, .bool a0_1] 38 (0, 0)) (zB BK365.out) hb); have n1_ := Aside0.mk (blk_below (g := gb366) (o := .cells #[.slice none 0 0, .bool false] 38 (0, 0)) (zB BK366.out) hb); have n2_ := Aside0.mk (below_step (by repeat (first | (with_reducible first | exact HB.out | apply pA | apply pN | apply pD | refine pS ?_ GE365.out | refine pS ?_ GE366.out) | exact HB.out)) hb); have n3_ := Aside0.mk (hbox); have n4_ := Aside0.mk ((by rw [hg]; exact (below_size (by repeat (first | (with_reducible first | exact HB.out | apply pA | apply pN | apply pD | refine pS ?_ GE365.out | refine pS ?_ GE366.out) | exact HB.out))) : w.heap.size ≤ gb367)); have n5_ := Aside0.mk ((by rw [hg]; exact (below_size (by repeat (first | (with_reducible first | exact HB.out | apply pA | apply pN | apply pD | refine pS ?_ GE365.out | refine pS ?_ GE366.out) | exact HB.out))) : w.heap.size ≤ gb367)); have n6_ := Aside0.mk ((by rw [hg]; exact Nat.ne_of_lt (blk_lt (g := gb365) (o := .cells #[.slice A0_0 l0_0.length c0_0, .bool a0_1] 38 (0, 0)) (zB BK365.out)) : gb365 ≠ gb367)); have n7_ := Aside0.mk ((by rw [hg]; exact Nat.ne_of_gt (blk_lt (g := gb365) (o := .cells #[.slice A0_0 l0_0.length c0_0, .bool a0_1] 38 (0, 0)) (zB BK365.out)) : gb367 ≠ gb365)); have n8_ := Aside0.mk ((by rw [hg]; exact Nat.ne_of_lt (blk_lt (g := gb366) (o := .cells #[.slice none 0 0, .bool false] 38 (0, 0)) (zB BK366.out)) : gb366 ≠ gb367)); have n9_ := Aside0.mk ((by rw [hg]; exact Nat.ne_of_gt (blk_lt (g := gb366) (o := .cells #[.slice none 0 0, .bool false] 38 (0, 0)) (zB BK366.out)) : gb367 ≠ gb366)); clear BK365; clear BK366; clear HB; have BK365 := n0_; have BK366 := n1_; have HB := n2_; have BK367 := n3_; have GW367 := n4_; have GE367 := n5_; have NB365_367 := n6_; have NB367_365 := n7_; have NB366_367 := n8_; have NB367_366 := n9_; clear n0_ n1_ n2_ n3_ n4_ n5_ n6_ n7_ n8_ n9_; clear hb hbox hg; have hnb9 := NB365_366.out; have hnc9 := NB366_365.out; have hnb10 := NB365_367.out; have hnc10 := NB367_365.out; obtain ⟨hcz11_0, hcz11_1, hfz11_0, hfz11_1⟩ := bk2 BK365.out) | ((with_reducible refine gate_callee (f := 28) rfl ?_); refine goesL_ (some 15) rfl rfl Try.func28 (by kernel_rfl) rfl #[.agg #[.slice A0_0 l0_0.length c0_0, .bool a0_1], .int .u8 a1] rfl (by (try simp only [List.map_toArray, List.map_cons, List.map_nil]); first | done | rfl | (simp only [List.length_drop, List.length_take]; rfl)) ?_; (with_reducible refine (portreeveref07_Feed.calls k _ _ l0_0 a0_1 a1 t368 t371 t372 true _ ?side1 ?side2 A3.out).mono ?_); (case side1 => repeat (first | exact (Kd.C_below HR0_0.out HB.out) | (with_reducible refine Kd.C_alloc ?_ _) | (with_reducible refine Kd.C_drewN ?_ _) | (with_reducible refine Kd.C_drew ?_))); (case side2 => exact HC0_0.out); rintro e w12 ⟨v369, v373, rfl, ho0, ho1, hb⟩; refine ⟨_, rfl, ?_⟩; have n0_ := Aside0.mk (Kd.R_lower (Kd.R_newM (M := fun k_ => (w.heap.size ≤ k_)) ho0 (below_size (by repeat (first | (with_reducible first | exact HB.out | apply pA | apply pN | apply pD | refine pS ?_ GE365.out | refine pS ?_ GE366.out | refine pS ?_ GE367.out) | exact HB.out))) (fun k_ h_ => h_)) (below_size (by repeat (first | (with_reducible first | exact HB.out | apply pA | apply pN | apply pD | refine pS ?_ GE365.out | refine pS ?_ GE366.out | refine pS ?_ GE367.out) | exact HB.out)))); have n1_ := Aside0.mk (Kd.R_lower (Kd.R_newM (M := fun k_ => (w.heap.size ≤ k_)) ho1 (below_size (by repeat (first | (with_reducible first | exact HB.out | apply pA | apply pN | apply pD | refine pS ?_ GE365.out | refine pS ?_ GE366.out | refine pS ?_ GE367.out) | exact HB.out))) (fun k_ h_ => h_)) (below_size (by repeat (first | (with_reducible first | exact HB.out | apply pA | apply pN | apply pD | refine pS ?_ GE365.out | refine pS ?_ GE366.out | refine pS ?_ GE367.out) | exact HB.out)))); have n2_ := Aside0.mk (blk_below (g := gb365) (o := .cells #[.slice A0_0 l0_0.length c0_0, .bool a0_1] 38 (0, 0)) (zB BK365.out) hb); have n3_ := Aside0.mk (blk_below (g := gb366) (o := .cells #[.slice none 0 0, .bool false] 38 (0, 0)) (zB BK366.out) hb); have n4_ := Aside0.mk (blk_below (g := gb367) (o := .cells #[.int .u16 0, .slice none 0 0] 25 (0, 0)) (zB BK367.out) hb); have n5_ := Aside0.mk (below_step (by repeat (first | (with_reducible first | exact HB.out | apply pA | apply pN | apply pD | refine pS ?_ GE365.out | refine pS ?_ GE366.out | refine pS ?_ GE367.out) | exact HB.out)) hb); clear BK365; clear BK366; clear BK367; clear HB; have HO370 := n0_; have HO374 := n1_; have BK365 := n2_; have BK366 := n3_; have BK367 := n4_; have HB := n5_; clear n0_ n1_ n2_ n3_ n4_ n5_; (try clear hb); (try clear hb2); (try clear hk); (try clear hi); (try clear ho0); (try clear ho1)) | ((with_reducible refine gate_dst (N := 7) rfl ?_); refine box_event ?hg (N := 7) ?hd (cs := #[.slice none 0 0, .bool false]) (t := 38) ?hr ?_; (case hd => rfl); (case hg => rfl); (case hr => first | (go_simp; done) | (go_simp; rfl)); intro gb376 hg w13 hbox hb; have n0_ := Aside0.mk (Kd.R_below (zR HO370.out) hb); have n1_ := Aside0.mk (Kd.R_below (zR HO374.out) hb); have n2_ := Aside0.mk (blk_below (g := gb365) (o := .cells #[.slice A0_0 l0_0.length c0_0, .bool a0_1] 38 (0, 0)) (zB BK365.out) hb); have n3_ := Aside0.mk (blk_below (g := gb366) (o := .cells #[.slice none 0 0, .bool false] 38 (0, 0)) (zB BK366.out) hb); have n4_ := Aside0.mk (blk_below (g := gb367) (o := .cells #[.int .u16 0, .slice none 0 0] 25 (0, 0)) (zB BK367.out) hb); have n5_ := Aside0.mk (below_step (by repeat (first | (with_reducible first | exact HB.out | apply pA | apply pN | apply pD | refine pS ?_ GE365.out | refine pS ?_ GE366.out | refine pS ?_ GE367.out) | exact HB.out)) hb); have n6_ := Aside0.mk (hbox); have n7_ := Aside0.mk ((by rw [hg]; exact (below_size (by repeat (first | (with_reducible first | exact HB.out | apply pA | apply pN | apply pD | refine pS ?_ GE365.out | refine pS ?_ GE366.out | refine pS ?_ GE367.out) | exact HB.out))) : w.heap.size ≤ gb376)); have n8_ := Aside0.mk ((by rw [hg]; exact (below_size (by repeat (first | (with_reducible first | exact HB.out | apply pA | apply pN | apply pD | refine pS ?_ GE365.out | refine pS ?_ GE366.out | refine pS ?_ GE367.out) | exact HB.out))) : w.heap.size ≤ gb376)); have n9_ := Aside0.mk ((by rw [hg]; exact Nat.ne_of_lt (blk_lt (g := gb365) (o := .cells #[.slice A0_0 l0_0.length c0_0, .bool a0_1] 38 (0, 0)) (zB BK365.out)) : gb365 ≠ gb376)); have n10_ := Aside0.mk ((by rw [hg]; exact Nat.ne_of_gt (blk_lt (g := gb365) (o := .cells #[.slice A0_0 l0_0.length c0_0, .bool a0_1] 38 (0, 0)) (zB BK365.out)) : gb376 ≠ gb365)); have n11_ := Aside0.mk ((by rw [hg]; exact Nat.ne_of_lt (blk_lt (g := gb366) (o := .cells #[.slice none 0 0, .bool false] 38 (0, 0)) (zB BK366.out)) : gb366 ≠ gb376)); have n12_ := Aside0.mk ((by rw [hg]; exact Nat.ne_of_gt (blk_lt (g := gb366) (o := .cells #[.slice none 0 0, .bool false] 38 (0, 0)) (zB BK366.out)) : gb376 ≠ gb366)); have n13_ := Aside0.mk ((by rw [hg]; exact Nat.ne_of_lt (blk_lt (g := gb367) (o := .cells #[.int .u16 0, .slice none 0 0] 25 (0, 0)) (zB BK367.out)) : gb367 ≠ gb376)); have n14_ := Aside0.mk ((by rw [hg]; exact Nat.ne_of_gt (blk_lt (g := gb367) (o := .cells #[.int .u16 0, .slice none 0 0] 25 (0, 0)) (zB BK367.out)) : gb376 ≠ gb367)); clear HO370; clear HO374; clear BK365; clear BK366; clear BK367; clear HB; have HO370 := n0_; have HO374 := n1_; have BK365 := n2_; have BK366 := n3_; have BK367 := n4_; have HB := n5_; have BK376 := n6_; have GW376 := n7_; have GE376 := n8_; have NB365_376 := n9_; have NB376_365 := n10_; have NB366_376 := n11_; have NB376_366 := n12_; have NB367_376 := n13_; have NB376_367 := n14_; clear n0_ n1_ n2_ n3_ n4_ n5_ n6_ n7_ n8_ n9_ n10_ n11_ n12_ n13_ n14_; clear hb hbox hg; obtain ⟨Ao14, co14, eo14⟩ := Kd.R_slice HO370.out; subst eo14; have hnb15 := NB376_365.out; have hnc15 := NB365_376.out; have hnb16 := NB376_366.out; have hnc16 := NB366_376.out; have hnb17 := NB376_367.out; have hnc17 := NB367_376.out; obtain ⟨hcz18_0, hcz18_1, hfz18_0, hfz18_1⟩ := bk2 BK376.out) | ((with_reducible refine gate_store (t := 38) (p := 7) rfl ?_); refine store_event (t := 38) (p := 7) (v := ?vo_w19) (w1 := ((w13.setCell ⟨gb376, 0, none⟩ (.slice Ao14 t368.length co14)).setCell ⟨gb376, 1, none⟩ (.bool t371))) ?hg ?ho ?hn ?hr ?_; (case ho => rfl); (case hg => rfl); (case hn => rfl); (case hr => first | (go_simp; done) | (go_simp; rfl)); intro w19 hw; have n0_ : Aside0 (Kd.R (Kd.int .u8) 5 w19 w.heap.size (fun k_ => (w.heap.size ≤ k_) ∧ some k_ ≠ (v373 : Value).ownBlock) (.slice Ao14 t368.length co14) t368) := ⟨(by rw [hw]; exact (zR (Kd.R_mono (Kd.R_far (p := ⟨gb376, 1, none⟩) (Kd.R_far (p := ⟨gb376, 0, none⟩) (Kd.R_types HO370.out BK376.out (by decide)) (fun _ hk => hk.2) (.slice Ao14 t368.length co14)) (fun _ hk => hk.2) (.bool t371)) (fun _ hk => ⟨hk.1.1, hk.1.2⟩))))⟩; have n1_ : Aside0 (Kd.R (Kd.int .u8) 5 w19 w.heap.size (fun k_ => (w.heap.size ≤ k_) ∧ some k_ ≠ (.slice Ao14 t368.length co14 : Value).ownBlock) v373 t372) := ⟨(by rw [hw]; exact (zR (Kd.R_mono (Kd.R_far (p := ⟨gb376, 1, none⟩) (Kd.R_far (p := ⟨gb376, 0, none⟩) (Kd.R_types HO374.out BK376.out (by decide)) (fun _ hk => hk.2) (.slice Ao14 t368.length co14)) (fun _ hk => hk.2) (.bool t371)) (fun _ hk => ⟨hk.1.1, hk.1.2⟩))))⟩; have n2_ : Aside0 (w19.heap[gb365]? = some (.cells #[.slice A0_0 l0_0.length c0_0, .bool a0_1] 38 (0, 0))) := ⟨(by rw [hw]; exact (by (with_reducible repeat (first | refine qN ?_ _ | refine qD ?_ | refine qA ?_ _)); refine blk_far ?_ NB365_376.out _; (with_reducible repeat (first | refine qN ?_ _ | refine qD ?_ | refine qA ?_ _)); refine blk_far ?_ NB365_376.out _; (with_reducible repeat (first | refine qN ?_ _ | refine qD ?_ | refine qA ?_ _)); exact BK365.out))⟩; have n3_ : Aside0 (w19.heap[gb366]? = some (.cells #[.slice none 0 0, .bool false] 38 (0, 0))) := ⟨(by rw [hw]; exact (by (with_reducible repeat (first | refine qN ?_ _ | refine qD ?_ | refine qA ?_ _)); refine blk_far ?_ NB366_376.out _; (with_reducible repeat (first | refine qN ?_ _ | refine qD ?_ | refine qA ?_ _)); refine blk_far ?_ NB366_376.out _; (with_reducible repeat (first | refine qN ?_ _ | refine qD ?_ | refine qA ?_ _)); exact BK366.out))⟩; have n4_ : Aside0 (w19.heap[gb367]? = some (.cells #[.int .u16 0, .slice none 0 0] 25 (0, 0))) := ⟨(by rw [hw]; exact (by (with_reducible repeat (first | refine qN ?_ _ | refine qD ?_ | refine qA ?_ _)); refine blk_far ?_ NB367_376.out _; (with_reducible repeat (first | refine qN ?_ _ | refine qD ?_ | refine qA ?_ _)); refine blk_far ?_ NB367_376.out _; (with_reducible repeat (first | refine qN ?_ _ | refine qD ?_ | refine qA ?_ _)); exact BK367.out))⟩; have n5_ : Aside0 (w19.heap[gb376]? = some (.cells #[.slice Ao14 t368.length co14, .bool t371] 38 (0, 0))) := ⟨(by rw [hw]; exact (by (with_reducible repeat (first | refine qN ?_ _ | refine qD ?_ | refine qA ?_ _)); refine blk_put (cs := #[.slice Ao14 t368.length co14, .bool false]) ?_ 1 _ rfl; (with_reducible repeat (first | refine qN ?_ _ | refine qD ?_ | refine qA ?_ _)); refine blk_put (cs := #[.slice none 0 0, .bool false]) ?_ 0 _ rfl; (with_reducible repeat (first | refine qN ?_ _ | refine qD ?_ | refine qA ?_ _)); exact BK376.out))⟩; have n6_ : Aside0 (Below w.heap.size w w19) := ⟨(by rw [hw]; exact (by repeat (first | (with_reducible first | exact HB.out | apply pA | apply pN | apply pD | refine pS ?_ GE365.out | refine pS ?_ GE366.out | refine pS ?_ GE367.out | refine pS ?_ GE376.out) | exact HB.out)))⟩; clear hw; clear HO370; clear HO374; clear BK365; clear BK366; clear BK367; clear BK376; clear HB; have HO370 := n0_; have HO374 := n1_; have BK365 := n2_; have BK366 := n3_; have BK367 := n4_; have BK376 := n5_; have HB := n6_; clear n0_ n1_ n2_ n3_ n4_ n5_ n6_; obtain ⟨Ao20, co20, eo20⟩ := Kd.R_slice HO374.out; subst eo20) | ((with_reducible refine gate_callee (f := 29) rfl ?_); refine goesL_ (some 25) rfl rfl Try.func29 (by kernel_rfl) rfl #[.slice Ao20 t372.length co20] rfl (by (try simp only [List.map_toArray, List.map_cons, List.map_nil]); first | done | rfl | (simp only [List.length_drop, List.length_take]; rfl)) ?_; (with_reducible refine (portreeveref08_Read.calls k (fun k_ => some k_ = (.slice Ao20 t372.length co20 : Value).ownBlock) _ _ t372 t377 t378 t381 _ ?side1 A5.out).mono ?_); (case side1 => exact Kd.R_V (Kd.R_tight rfl (Kd.R_types (Kd.R_types (Kd.R_types (Kd.R_types (HO374.out) BK365.out (by decide)) BK366.out (by decide)) BK367.out (by decide)) BK376.out (by decide)))); rintro e w21 ⟨v379, rfl, ho0, hb⟩; refine ⟨_, rfl, ?_⟩; have n0_ := Aside0.mk (Kd.R_below (zR HO370.out) hb); have n1_ := Aside0.mk (Kd.R_below (zR HO374.out) hb); have n2_ := Aside0.mk (Kd.V_lower (Kd.V_mono (ok' := fun k_ => (w.heap.size ≤ k_) ∧ some k_ ≠ (.slice Ao14 t368.length co14 : Value).ownBlock ∧ k_ ≠ gb365 ∧ k_ ≠ gb366 ∧ k_ ≠ gb367 ∧ k_ ≠ gb376) ho0 (fun k_ hk_ => ⟨Or.elim hk_ (fun hs_ => ((Kd.R_types (Kd.R_types (Kd.R_types (Kd.R_types (HO374.out) BK365.out (by decide)) BK366.out (by decide)) BK367.out (by decide)) BK376.out (by decide)).1 k_ hs_.symm).1.1.1.1.1) (fun hn_ => (Nat.le_trans (below_size (by repeat (first | (with_reducible first | exact HB.out | apply pA | apply pN | apply pD | refine pS ?_ GE365.out | refine pS ?_ GE366.out | refine pS ?_ GE367.out | refine pS ?_ GE376.out) | exact HB.out))) hn_)), Or.elim hk_ (fun hs_ => ((Kd.R_types (Kd.R_types (Kd.R_types (Kd.R_types (HO374.out) BK365.out (by decide)) BK366.out (by decide)) BK367.out (by decide)) BK376.out (by decide)).1 k_ hs_.symm).1.1.1.1.2) (fun hn_ => (Kd.fresh' (Kd.R_lt (zR HO370.out)) k_ hn_)), Or.elim hk_ (fun hs_ => ((Kd.R_types (Kd.R_types (Kd.R_types (Kd.R_types (HO374.out) BK365.out (by decide)) BK366.out (by decide)) BK367.out (by decide)) BK376.out (by decide)).1 k_ hs_.symm).1.1.1.2) (fun hn_ => (Kd.freshB (g := gb365) (o := .cells #[.slice A0_0 l0_0.length c0_0, .bool a0_1] 38 (0, 0)) (zB BK365.out) k_ hn_)), Or.elim hk_ (fun hs_ => ((Kd.R_types (Kd.R_types (Kd.R_types (Kd.R_types (HO374.out) BK365.out (by decide)) BK366.out (by decide)) BK367.out (by decide)) BK376.out (by decide)).1 k_ hs_.symm).1.1.2) (fun hn_ => (Kd.freshB (g := gb366) (o := .cells #[.slice none 0 0, .bool false] 38 (0, 0)) (zB BK366.out) k_ hn_)), Or.elim hk_ (fun hs_ => ((Kd.R_types (Kd.R_types (Kd.R_types (Kd.R_types (HO374.out) BK365.out (by decide)) BK366.out (by decide)) BK367.out (by decide)) BK376.out (by decide)).1 k_ hs_.symm).1.2) (fun hn_ => (Kd.freshB (g := gb367) (o := .cells #[.int .u16 0, .slice none 0 0] 25 (0, 0)) (zB BK367.out) k_ hn_)), Or.elim hk_ (fun hs_ => ((Kd.R_types (Kd.R_types (Kd.R_types (Kd.R_types (HO374.out) BK365.out (by decide)) BK366.out (by decide)) BK367.out (by decide)) BK376.out (by decide)).1 k_ hs_.symm).2) (fun hn_ => (Kd.freshB (g := gb376) (o := .cells #[.slice Ao14 t368.length co14, .bool t371] 38 (0, 0)) (zB BK376.out) k_ hn_))⟩)) (below_size (by repeat (first | (with_reducible first | exact HB.out | apply pA | apply pN | apply pD | refine pS ?_ GE365.out | refine pS ?_ GE366.out | refine pS ?_ GE367.out | refine pS ?_ GE376.out) | exact HB.out)))); have n3_ := Aside0.mk (blk_below (g := gb365) (o := .cells #[.slice A0_0 l0_0.length c0_0, .bool a0_1] 38 (0, 0)) (zB BK365.out) hb); have n4_ := Aside0.mk (blk_below (g := gb366) (o := .cells #[.slice none 0 0, .bool false] 38 (0, 0)) (zB BK366.out) hb); have n5_ := Aside0.mk (blk_below (g := gb367) (o := .cells #[.int .u16 0, .slice none 0 0] 25 (0, 0)) (zB BK367.out) hb); have n6_ := Aside0.mk (blk_below (g := gb376) (o := .cells #[.slice Ao14 t368.length co14, .bool t371] 38 (0, 0)) (zB BK376.out) hb); have n7_ := Aside0.mk (below_step (by repeat (first | (with_reducible first | exact HB.out | apply pA | apply pN | apply pD | refine pS ?_ GE365.out | refine pS ?_ GE366.out | refine pS ?_ GE367.out | refine pS ?_ GE376.out) | exact HB.out)) hb); clear HO370; clear HO374; clear BK365; clear BK366; clear BK367; clear BK376; clear HB; have HO370 := n0_; have HO374 := n1_; have HO380 := n2_; have BK365 := n3_; have BK366 := n4_; have BK367 := n5_; have BK376 := n6_; have HB := n7_; clear n0_ n1_ n2_ n3_ n4_ n5_ n6_ n7_; (try clear hb); (try clear hb2); (try clear hk); (try clear hi); (try clear ho0)) | ((with_reducible refine gate_dst (N := 10) rfl ?_); refine box_event ?hg (N := 10) ?hd (cs := #[.int .u16 0, .slice none 0 0]) (t := 25) ?hr ?_; (case hd => rfl); (case hg => rfl); (case hr => first | (go_simp; done) | (go_simp; rfl)); intro gb382 hg w22 hbox hb; have n0_ := Aside0.mk (Kd.R_below (zR HO370.out) hb); have n1_ := Aside0.mk (Kd.R_below (zR HO374.out) hb); have n2_ := Aside0.mk (Kd.V_below (Kd.V_elderB (zV HO380.out) gb382 (Nat.le_of_eq hg.symm)) hb); have n3_ := Aside0.mk (blk_below (g := gb365) (o := .cells #[.slice A0_0 l0_0.length c0_0, .bool a0_1] 38 (0, 0)) (zB BK365.out) hb); have n4_ := Aside0.mk (blk_below (g := gb366) (o := .cells #[.slice none 0 0, .bool false] 38 (0, 0)) (zB BK366.out) hb); have n5_ := Aside0.mk (blk_below (g := gb367) (o := .cells #[.int .u16 0, .slice none 0 0] 25 (0, 0)) (zB BK367.out) hb); have n6_ := Aside0.mk (blk_below (g := gb376) (o := .cells #[.slice Ao14 t368.length co14, .bool t371] 38 (0, 0)) (zB BK376.out) hb); have n7_ := Aside0.mk (below_step (by repeat (first | (with_reducible first | exact HB.out | apply pA | apply pN | apply pD | refine pS ?_ GE365.out | refine pS ?_ GE366.out | refine pS ?_ GE367.out | refine pS ?_ GE376.out) | exact HB.out)) hb); have n8_ := Aside0.mk (hbox); have n9_ := Aside0.mk ((by rw [hg]; exact (below_size (by repeat (first | (with_reducible first | exact HB.out | apply pA | apply pN | apply pD | refine pS ?_ GE365.out | refine pS ?_ GE366.out | refine pS ?_ GE367.out | refine pS ?_ GE376.out) | exact HB.out))) : w.heap.size ≤ gb382)); have n10_ := Aside0.mk ((by rw [hg]; exact (below_size (by repeat (first | (with_reducible first | exact HB.out | apply pA | apply pN | apply pD | refine pS ?_ GE365.out | refine pS ?_ GE366.out | refine pS ?_ GE367.out | refine pS ?_ GE376.out) | exact HB.out))) : w.heap.size ≤ gb382)); have n11_ := Aside0.mk ((by rw [hg]; exact Nat.ne_of_lt (blk_lt (g := gb365) (o := .cells #[.slice A0_0 l0_0.length c0_0, .bool a0_1] 38 (0, 0)) (zB BK365.out)) : gb365 ≠ gb382)); have n12_ := Aside0.mk ((by rw [hg]; exact Nat.ne_of_gt (blk_lt (g := gb365) (o := .cells #[.slice A0_0 l0_0.length c0_0, .bool a0_1] 38 (0, 0)) (zB BK365.out)) : gb382 ≠ gb365)); have n13_ := Aside0.mk ((by rw [hg]; exact Nat.ne_of_lt (blk_lt (g := gb366) (o := .cells #[.slice none 0 0, .bool false] 38 (0, 0)) (zB BK366.out)) : gb366 ≠ gb382)); have n14_ := Aside0.mk ((by rw [hg]; exact Nat.ne_of_gt (blk_lt (g := gb366) (o := .cells #[.slice none 0 0, .bool false] 38 (0, 0)) (zB BK366.out)) : gb382 ≠ gb366)); have n15_ := Aside0.mk ((by rw [hg]; exact Nat.ne_of_lt (blk_lt (g := gb367) (o := .cells #[.int .u16 0, .slice none 0 0] 25 (0, 0)) (zB BK367.out)) : gb367 ≠ gb382)); have n16_ := Aside0.mk ((by rw [hg]; exact Nat.ne_of_gt (blk_lt (g := gb367) (o := .cells #[.int .u16 0, .slice none 0 0] 25 (0, 0)) (zB BK367.out)) : gb382 ≠ gb367)); have n17_ := Aside0.mk ((by rw [hg]; exact Nat.ne_of_lt (blk_lt (g := gb376) (o := .cells #[.slice Ao14 t368.length co14, .bool t371] 38 (0, 0)) (zB BK376.out)) : gb376 ≠ gb382)); have n18_ := Aside0.mk ((by rw [hg]; exact Nat.ne_of_gt (blk_lt (g := gb376) (o := .cells #[.slice Ao14 t368.length co14, .bool t371] 38 (0, 0)) (zB BK376.out)) : gb382 ≠ gb376)); clear HO370; clear HO374; clear HO380; clear BK365; clear BK366; clear BK367; clear BK376; clear HB; have HO370 := n0_; have HO374 := n1_; have HO380 := n2_; have BK365 := n3_; have BK366 := n4_; have BK367 := n5_; have BK376 := n6_; have HB := n7_; have BK382 := n8_; have GW382 := n9_; have GE382 := n10_; have NB365_382 := n11_; have NB382_365 := n12_; have NB366_382 := n13_; have NB382_366 := n14_; have NB367_382 := n15_; have NB382_367 := n16_; have NB376_382 := n17_; have NB382_376 := n18_; clear n0_ n1_ n2_ n3_ n4_ n5_ n6_ n7_ n8_ n9_ n10_ n11_ n12_ n13_ n14_ n15_ n16_ n17_ n18_; clear hb hbox hg; have hnb23 := NB382_365.out; have hnc23 := NB365_382.out; have hnb24 := NB382_366.out; have hnc24 := NB366_382.out; have hnb25 := NB382_367.out; have hnc25 := NB367_382.out; have hnb26 := NB382_376.out; have hnc26 := NB376_382.out; obtain ⟨hcz27_0, hcz27_1, hfz27_0, hfz27_1⟩ := bk2 BK382.out; obtain ⟨Ao28, co28, eo28⟩ := Kd.V_slice HO380.out; subst eo28))
  have n0_ : Aside0 (Kd.R (Kd.int .u8) 5 ((w22.setCell ⟨gb382, 0, none⟩ (.int .u16 t377)).setCell ⟨gb382, 1, none⟩ (.slice Ao28 t378.length co28)) w.heap.size (fun k_ => (w.heap.size ≤ k_) ∧ some k_ ≠ (.slice Ao20 t372.length co20 : Value).ownBlock) (.slice Ao14 t368.length co14) t368) := ⟨zR (Kd.R_mono (Kd.R_far (p := ⟨gb382, 1, none⟩) (Kd.R_far (p := ⟨gb382, 0, none⟩) (Kd.R_types HO370.out BK382.out (by decide)) (fun _ hk => hk.2) (.int .u16 t377)) (fun _ hk => hk.2) (.slice Ao28 t378.length co28)) (fun _ hk => ⟨hk.1.1, hk.1.2⟩))⟩
  have n1_ : Aside0 (Kd.R (Kd.int .u8) 5 ((w22.setCell ⟨gb382, 0, none⟩ (.int .u16 t377)).setCell ⟨gb382, 1, none⟩ (.slice Ao28 t378.length co28)) w.heap.size (fun k_ => (w.heap.size ≤ k_) ∧ some k_ ≠ (.slice Ao14 t368.length co14 : Value).ownBlock) (.slice Ao20 t372.length co20) t372) := ⟨zR (Kd.R_mono (Kd.R_far (p := ⟨gb382, 1, none⟩) (Kd.R_far (p := ⟨gb382, 0, none⟩) (Kd.R_types HO374.out BK382.out (by decide)) (fun _ hk => hk.2) (.int .u16 t377)) (fun _ hk => hk.2) (.slice Ao28 t378.length co28)) (fun _ hk => ⟨hk.1.1, hk.1.2⟩))⟩
  have n2_ : Aside0 (Kd.V (Kd.int .u8) 5 ((w22.setCell ⟨gb382, 0, none⟩ (.int .u16 t377)).setCell ⟨gb382, 1, none⟩ (.slice Ao28 t378.length co28)) w.heap.size (fun k_ => (w.heap.size ≤ k_) ∧ some k_ ≠ (.slice Ao14 t368.length co14 : Value).ownBlock ∧ k_ ≠ gb365 ∧ k_ ≠ gb366 ∧ k_ ≠ gb367 ∧ k_ ≠ gb376 ∧ k_ ≠ gb382) (.slice Ao28 t378.length co28) t378) := ⟨zV (Kd.V_mono (Kd.V_far (p := ⟨gb382, 1, none⟩) (Kd.V_far (p := ⟨gb382, 0, none⟩) (Kd.V_mono HO380.out (fun k_ hk => (⟨hk, hk.2⟩ : _ ∧ k_ ≠ gb382))) (fun _ hk => hk.2) (.int .u16 t377)) (fun _ hk => hk.2) (.slice Ao28 t378.length co28)) (fun _ hk => ⟨hk.1.1.1, ⟨hk.1.1.2.1, ⟨hk.1.1.2.2.1, ⟨hk.1.1.2.2.2.1, ⟨hk.1.1.2.2.2.2.1, ⟨hk.1.1.2.2.2.2.2, hk.1.2⟩⟩⟩⟩⟩⟩))⟩
  have n3_ : Aside0 (((w22.setCell ⟨gb382, 0, none⟩ (.int .u16 t377)).setCell ⟨gb382, 1, none⟩ (.slice Ao28 t378.length co28)).heap[gb365]? = some (.cells #[.slice A0_0 l0_0.length c0_0, .bool a0_1] 38 (0, 0))) := ⟨by (with_reducible repeat (first | refine qN ?_ _ | refine qD ?_ | refine qA ?_ _)); refine blk_far ?_ NB365_382.out _; (with_reducible repeat (first | refine qN ?_ _ | refine qD ?_ | refine qA ?_ _)); refine blk_far ?_ NB365_382.out _; (with_reducible repeat (first | refine qN ?_ _ | refine qD ?_ | refine qA ?_ _)); exact BK365.out⟩
  have n4_ : Aside0 (((w22.setCell ⟨gb382, 0, none⟩ (.int .u16 t377)).setCell ⟨gb382, 1, none⟩ (.slice Ao28 t378.length co28)).heap[gb366]? = some (.cells #[.slice none 0 0, .bool false] 38 (0, 0))) := ⟨by (with_reducible repeat (first | refine qN ?_ _ | refine qD ?_ | refine qA ?_ _)); refine blk_far ?_ NB366_382.out _; (with_reducible repeat (first | refine qN ?_ _ | refine qD ?_ | refine qA ?_ _)); refine blk_far ?_ NB366_382.out _; (with_reducible repeat (first | refine qN ?_ _ | refine qD ?_ | refine qA ?_ _)); exact BK366.out⟩
  have n5_ : Aside0 (((w22.setCell ⟨gb382, 0, none⟩ (.int .u16 t377)).setCell ⟨gb382, 1, none⟩ (.slice Ao28 t378.length co28)).heap[gb367]? = some (.cells #[.int .u16 0, .slice none 0 0] 25 (0, 0))) := ⟨by (with_reducible repeat (first | refine qN ?_ _ | refine qD ?_ | refine qA ?_ _)); refine blk_far ?_ NB367_382.out _; (with_reducible repeat (first | refine qN ?_ _ | refine qD ?_ | refine qA ?_ _)); refine blk_far ?_ NB367_382.out _; (with_reducible repeat (first | refine qN ?_ _ | refine qD ?_ | refine qA ?_ _)); exact BK367.out⟩
  have n6_ : Aside0 (((w22.setCell ⟨gb382, 0, none⟩ (.int .u16 t377)).setCell ⟨gb382, 1, none⟩ (.slice Ao28 t378.length co28)).heap[gb376]? = some (.cells #[.slice Ao14 t368.length co14, .bool t371] 38 (0, 0))) := ⟨by (with_reducible repeat (first | refine qN ?_ _ | refine qD ?_ | refine qA ?_ _)); refine blk_far ?_ NB376_382.out _; (with_reducible repeat (first | refine qN ?_ _ | refine qD ?_ | refine qA ?_ _)); refine blk_far ?_ NB376_382.out _; (with_reducible repeat (first | refine qN ?_ _ | refine qD ?_ | refine qA ?_ _)); exact BK376.out⟩
  have n7_ : Aside0 (((w22.setCell ⟨gb382, 0, none⟩ (.int .u16 t377)).setCell ⟨gb382, 1, none⟩ (.slice Ao28 t378.length co28)).heap[gb382]? = some (.cells #[.int .u16 t377, .slice Ao28 t378.length co28] 25 (0, 0))) := ⟨by (with_reducible repeat (first | refine qN ?_ _ | refine qD ?_ | refine qA ?_ _)); refine blk_put (cs := #[.int .u16 t377, .slice none 0 0]) ?_ 1 _ rfl; (with_reducible repeat (first | refine qN ?_ _ | refine qD ?_ | refine qA ?_ _)); refine blk_put (cs := #[.int .u16 0, .slice none 0 0]) ?_ 0 _ rfl; (with_reducible repeat (first | refine qN ?_ _ | refine qD ?_ | refine qA ?_ _)); exact BK382.out⟩
  have n8_ : Aside0 (Below w.heap.size w ((w22.setCell ⟨gb382, 0, none⟩ (.int .u16 t377)).setCell ⟨gb382, 1, none⟩ (.slice Ao28 t378.length co28))) := ⟨by repeat (first | (with_reducible first | exact HB.out | apply pA | apply pN | apply pD | refine pS ?_ GE365.out | refine pS ?_ GE366.out | refine pS ?_ GE367.out | refine pS ?_ GE376.out | refine pS ?_ GE382.out) | exact HB.out)⟩
  (try clear HO370)
  (try clear HO374)
  (try clear HO380)
  (try clear BK365)
  (try clear BK366)
  (try clear BK367)
  (try clear BK376)
  (try clear BK382)
  (try clear HB)
  generalize ((w22.setCell ⟨gb382, 0, none⟩ (.int .u16 t377)).setCell ⟨gb382, 1, none⟩ (.slice Ao28 t378.length co28)) = w29 at n0_ n1_ n2_ n3_ n4_ n5_ n6_ n7_ n8_ ⊢
  have HO370 := n0_
  have HO374 := n1_
  have HO380 := n2_
  have BK365 := n3_
  have BK366 := n4_
  have BK367 := n5_
  have BK376 := n6_
  have BK382 := n7_
  have HB := n8_
  clear n0_ n1_ n2_ n3_ n4_ n5_ n6_ n7_ n8_
  have n0_ := Aside0.mk (Kd.R_drew HO370.out)
  have n1_ := Aside0.mk (Kd.R_drew HO374.out)
  have n2_ := Aside0.mk (Kd.V_drew HO380.out)
  have n3_ := Aside0.mk (qD BK365.out)
  have n4_ := Aside0.mk (qD BK366.out)
  have n5_ := Aside0.mk (qD BK367.out)
  have n6_ := Aside0.mk (qD BK376.out)
  have n7_ := Aside0.mk (qD BK382.out)
  have n8_ := Aside0.mk (pD HB.out)
  clear HO370
  clear HO374
  clear HO380
  clear BK365
  clear BK366
  clear BK367
  clear BK376
  clear BK382
  clear HB
  have HO370 := n0_
  have HO374 := n1_
  have HO380 := n2_
  have BK365 := n3_
  have BK366 := n4_
  have BK367 := n5_
  have BK376 := n6_
  have BK382 := n7_
  have HB := n8_
  clear n0_ n1_ n2_ n3_ n4_ n5_ n6_ n7_ n8_
  refine start_ (n := 7) (S := fun w' => w'.cell? ⟨gb376, 0, none⟩ = some (.slice Ao14 t368.length co14) ∧ w'.cell? ⟨gb376, 1, none⟩ = some (.bool t371) ∧ w'.cell? ⟨gb382, 0, none⟩ = some (.int .u16 t377) ∧ w'.cell? ⟨gb382, 1, none⟩ = some (.slice Ao28 t378.length co28)) (ds := []) #[false, false, false, false, false, false, false] (by kernel_rfl) rfl rfl ⟨(blk_cell BK376.out 0).trans rfl, (blk_cell BK376.out 1).trans rfl, (blk_cell BK382.out 0).trans rfl, (blk_cell BK382.out 1).trans rfl⟩ (fun hHeld => ?_)
  generalize w29.drew = w30 at HO370 HO374 HO380 BK365 BK366 BK367 BK376 BK382 HB hHeld ⊢
  refine pure_ (i := 2) (N := some 30) (v := ?_) (a' := ?_) #[false, false, true, false, false, false, false] rfl rfl (by kernel_rfl) (fun _ _ _ h => h) (Or.inl ⟨by rfl, ?_⟩) ?_ ?_
  rotate_left
  ·intro w'
   go_simp
   with_reducible rfl
  rotate_left
  ·simp only [Act.put, sT, s0, s1, i64_w, i32_w]
   rfl
  refine pure_ (i := 3) (N := some 31) (v := ?_) (a' := ?_) #[false, false, true, true, false, false, false] rfl rfl (by kernel_rfl) (fun _ _ _ h => h) (Or.inl ⟨by rfl, ?_⟩) ?_ ?_
  rotate_left
  ·intro w'
   go_simp
   with_reducible rfl
  rotate_left
  ·simp only [Act.put, sT, s0, s1, i64_w, i32_w]
   rfl
  refine take_ (i := 0) (N := some 28) (v := ?_) (a' := ?_) #[true, false, true, true, false, false, false] rfl rfl (by kernel_rfl) (fun _ _ _ h => h) (Or.inl ⟨by rfl, ?_⟩) hHeld ?_ ?_
  rotate_left
  ·rintro w' ⟨s0, s1, s2, s3⟩
   go_simp
   with_reducible rfl
  rotate_left
  ·simp only [Act.put, sT, s0, s1, i64_w, i32_w]
   rfl
  refine take_ (i := 1) (N := some 29) (v := ?_) (a' := ?_) #[true, true, true, true, false, false, false] rfl rfl (by kernel_rfl) (fun _ _ _ h => h) (Or.inl ⟨by rfl, ?_⟩) hHeld ?_ ?_
  rotate_left
  ·rintro w' ⟨s0, s1, s2, s3⟩
   go_simp
   with_reducible rfl
  rotate_left
  ·simp only [Act.put, sT, s0, s1, i64_w, i32_w]
   rfl
  refine one_ (i := 4) (N := none) #[true, true, true, true, true, false, false] rfl rfl (by kernel_rfl) (by decide) (fun K hK => ?_)
  have hs31 : w30.cell? ⟨gb366, 0, none⟩ = some (.slice none 0 0) := (blk_cell BK366.out 0).trans rfl
  have hfs31 := blk_frozen BK366.out 0
  have hns31_0 := NB365_366.out
  have hns31_2 := NB367_366.out
  have hns31_3 := NB376_366.out
  have hns31_4 := NB382_366.out
  have hms31_0 := NB366_365.out
  have hms31_2 := NB366_367.out
  have hms31_3 := NB366_376.out
  have hms31_4 := NB366_382.out
  have hs32 : w30.cell? ⟨gb366, 1, none⟩ = some (.bool false) := (blk_cell BK366.out 1).trans rfl
  have hfs32 := blk_frozen BK366.out 1
  have hns32_0 := NB365_366.out
  have hns32_2 := NB367_366.out
  have hns32_3 := NB376_366.out
  have hns32_4 := NB382_366.out
  have hms32_0 := NB366_365.out
  have hms32_2 := NB366_367.out
  have hms32_3 := NB366_376.out
  have hms32_4 := NB366_382.out
  refine skip_ (w1 := ?_) (by rfl) rfl ?_ ?_
  rotate_left
  ·go_simp
   rfl
  refine hK.out _ _ ⟨((cell_far (p := ⟨gb366, _, none⟩) NB376_366.out _).trans (((cell_far (p := ⟨gb366, _, none⟩) NB376_366.out _).trans (hHeld.1)))), ((cell_far (p := ⟨gb366, _, none⟩) NB376_366.out _).trans (((cell_far (p := ⟨gb366, _, none⟩) NB376_366.out _).trans (hHeld.2.1)))), ((cell_far (p := ⟨gb366, _, none⟩) NB382_366.out _).trans (((cell_far (p := ⟨gb366, _, none⟩) NB382_366.out _).trans (hHeld.2.2.1)))), ((cell_far (p := ⟨gb366, _, none⟩) NB382_366.out _).trans (((cell_far (p := ⟨gb366, _, none⟩) NB382_366.out _).trans (hHeld.2.2.2))))⟩ (fun hHeld => ?_)
  clear hK K
  refine one_ (i := 5) (N := none) #[true, true, true, true, true, true, false] rfl rfl (by kernel_rfl) (by decide) (fun K hK => ?_)
  have hs33 : w30.cell? ⟨gb367, 0, none⟩ = some (.int .u16 0) := (blk_cell BK367.out 0).trans rfl
  have hfs33 := blk_frozen BK367.out 0
  have hns33_0 := NB365_367.out
  have hns33_1 := NB366_367.out
  have hns33_3 := NB376_367.out
  have hns33_4 := NB382_367.out
  have hms33_0 := NB367_365.out
  have hms33_1 := NB367_366.out
  have hms33_3 := NB367_376.out
  have hms33_4 := NB367_382.out
  have hs34 : w30.cell? ⟨gb367, 1, none⟩ = some (.slice none 0 0) := (blk_cell BK367.out 1).trans rfl
  have hfs34 := blk_frozen BK367.out 1
  have hns34_0 := NB365_367.out
  have hns34_1 := NB366_367.out
  have hns34_3 := NB376_367.out
  have hns34_4 := NB382_367.out
  have hms34_0 := NB367_365.out
  have hms34_1 := NB367_366.out
  have hms34_3 := NB367_376.out
  have hms34_4 := NB367_382.out
  refine skip_ (w1 := ?_) (by rfl) rfl ?_ ?_
  rotate_left
  ·go_simp
   rfl
  refine hK.out _ _ ⟨((cell_far (p := ⟨gb367, _, none⟩) NB376_367.out _).trans (((cell_far (p := ⟨gb367, _, none⟩) NB376_367.out _).trans (hHeld.1)))), ((cell_far (p := ⟨gb367, _, none⟩) NB376_367.out _).trans (((cell_far (p := ⟨gb367, _, none⟩) NB376_367.out _).trans (hHeld.2.1)))), ((cell_far (p := ⟨gb367, _, none⟩) NB382_367.out _).trans (((cell_far (p := ⟨gb367, _, none⟩) NB382_367.out _).trans (hHeld.2.2.1)))), ((cell_far (p := ⟨gb367, _, none⟩) NB382_367.out _).trans (((cell_far (p := ⟨gb367, _, none⟩) NB382_367.out _).trans (hHeld.2.2.2))))⟩ (fun hHeld => ?_)
  clear hK K
  refine pure_ (i := 6) (N := some 6) (v := ?_) (a' := ?_) #[true, true, true, true, true, true, true] rfl rfl (by kernel_rfl) (fun _ _ _ h => h) (Or.inl ⟨by rfl, ?_⟩) ?_ ?_
  rotate_left
  ·intro w'
   go_simp
   with_reducible rfl
  rotate_left
  ·simp only [Act.put, sT, s0, s1, i64_w, i32_w]
   rfl
  refine done_ (by kernel_rfl) ?_
  try go_wp2
  refine bodyPost_ret (results_list (rs := [.cell 4 38, .cell 5 25, .tmp 6]) rfl (by simp) (.cell gb366 38 #[.slice Ao14 t368.length co14, .bool t371] (0, 0) _ rfl (by (with_reducible repeat (first | refine qN ?_ _ | refine qD ?_ | refine qA ?_ _)); refine blk_far ?_ NB366_367.out _; (with_reducible repeat (first | refine qN ?_ _ | refine qD ?_ | refine qA ?_ _)); refine blk_far ?_ NB366_367.out _; (with_reducible repeat (first | refine qN ?_ _ | refine qD ?_ | refine qA ?_ _)); refine blk_put (cs := #[.slice Ao14 t368.length co14, .bool false]) ?_ 1 _ rfl; (with_reducible repeat (first | refine qN ?_ _ | refine qD ?_ | refine qA ?_ _)); refine blk_put (cs := #[.slice none 0 0, .bool false]) ?_ 0 _ rfl; (with_reducible repeat (first | refine qN ?_ _ | refine qD ?_ | refine qA ?_ _)); exact BK366.out) Try.underlying38 rfl (by kernel_rfl) (.cell gb367 25 #[.int .u16 t377, .slice Ao28 t378.length co28] (0, 0) _ rfl (by (with_reducible repeat (first | refine qN ?_ _ | refine qD ?_ | refine qA ?_ _)); refine blk_put (cs := #[.int .u16 t377, .slice none 0 0]) ?_ 1 _ rfl; (with_reducible repeat (first | refine qN ?_ _ | refine qD ?_ | refine qA ?_ _)); refine blk_put (cs := #[.int .u16 0, .slice none 0 0]) ?_ 0 _ rfl; (with_reducible repeat (first | refine qN ?_ _ | refine qD ?_ | refine qA ?_ _)); refine blk_far ?_ NB367_366.out _; (with_reducible repeat (first | refine qN ?_ _ | refine qD ?_ | refine qA ?_ _)); refine blk_far ?_ NB367_366.out _; (with_reducible repeat (first | refine qN ?_ _ | refine qD ?_ | refine qA ?_ _)); exact BK367.out) Try.underlying25 rfl (by kernel_rfl) (.tmp .nil)))) rfl ?_
  exact ⟨_, _, by first | rfl | (simp [errW_none, errW_some] <;> rfl) | (simp [*, errW_none, errW_some] <;> rfl), zR (Kd.R_mono (Kd.R_far (p := ⟨gb367, 1, none⟩) (Kd.R_far (p := ⟨gb367, 0, none⟩) (Kd.R_far (p := ⟨gb366, 1, none⟩) (Kd.R_far (p := ⟨gb366, 0, none⟩) (Kd.R_types (Kd.R_types HO370.out BK366.out (by decide)) BK367.out (by decide)) (fun _ hk => hk.1.2) (.slice Ao14 t368.length co14)) (fun _ hk => hk.1.2) (.bool t371)) (fun _ hk => hk.2) (.int .u16 t377)) (fun _ hk => hk.2) (.slice Ao28 t378.length co28)) (fun _ hk => hk.1.1.1)), zV (Kd.V_mono (Kd.V_far (p := ⟨gb367, 1, none⟩) (Kd.V_far (p := ⟨gb367, 0, none⟩) (Kd.V_far (p := ⟨gb366, 1, none⟩) (Kd.V_far (p := ⟨gb366, 0, none⟩) (Kd.V_mono (Kd.V_mono HO380.out (fun k_ hk => (⟨hk, hk.2.2.2.1⟩ : _ ∧ k_ ≠ gb366))) (fun k_ hk => (⟨hk, hk.1.2.2.2.2.1⟩ : _ ∧ k_ ≠ gb367))) (fun _ hk => hk.1.2) (.slice Ao14 t368.length co14)) (fun _ hk => hk.1.2) (.bool t371)) (fun _ hk => hk.2) (.int .u16 t377)) (fun _ hk => hk.2) (.slice Ao28 t378.length co28)) (fun _ hk => ⟨hk.1.1.1, hk.1.1.2.1⟩)), by repeat (first | (with_reducible first | exact HB.out | apply pA | apply pN | apply pD | refine pS ?_ GE365.out | refine pS ?_ GE366.out | refine pS ?_ GE367.out | refine pS ?_ GE376.out | refine pS ?_ GE382.out) | exact HB.out)⟩
 ·replace c4 := Bool.eq_false_iff.mpr c4
  subst c4
  have H1 : (some (t368, t371, 0, ([] : List Int), false)) = some (r1, r2, r3, r4, r5) := by rw [if_neg (show ¬ (false = true) by decide)] at H; exact H
  clear H
  have H := H1
  clear H1
  simp only [Option.some.injEq, Prod.mk.injEq] at H
  obtain ⟨rfl, rfl, rfl, rfl, rfl⟩ := H
  go_enter Try.func16, Try.ntmps16
  go_wp2_with (first | ((with_reducible refine gate_dst (N := 2) rfl ?_); refine box_event ?hg (N := 2) ?hd (cs := #[.slice A0_0 l0_0.length c0_0, .bool a0_1]) (t := 38) ?hr ?_; (case hd => rfl); (case hg => rfl); (case hr => first | (go_simp; done) | (go_simp; rfl)); intro gb365 hg w35 hbox hb; have n0_ := Aside0.mk (below_step (zH HB.out) hb); have n1_ := Aside0.mk (hbox); have n2_ := Aside0.mk ((by rw [hg]; exact (below_size (zH HB.out)) : w.heap.size ≤ gb365)); have n3_ := Aside0.mk ((by rw [hg]; exact (below_size (zH HB.out)) : w.heap.size ≤ gb365)); clear HB; have HB := n0_; have BK365 := n1_; have GW365 := n2_; have GE365 := n3_; clear n0_ n1_ n2_ n3_; clear hb hbox hg) | ((with_reducible refine gate_dst (N := 4) rfl ?_); refine box_event ?hg (N := 4) ?hd (cs := #[.slice none 0 0, .bool false]) (t := 38) ?hr ?_; (case hd => rfl); (case hg => rfl); (case hr => first | (go_simp; done) | (go_simp; rfl)); intro gb366 hg w36 hbox hb; have n0_ := Aside0.mk (blk_below (g := gb365) (o := .cells #[.slice A0_0 l0_0.length c0_0, .bool a0_1] 38 (0, 0)) (zB BK365.out) hb); have n1_ := Aside0.mk (below_step (by repeat (first | (with_reducible first | exact HB.out | apply pA | apply pN | apply pD | refine pS ?_ GE365.out) | exact HB.out)) hb); have n2_ := Aside0.mk (hbox); have n3_ := Aside0.mk ((by rw [hg]; exact (below_size (by repeat (first | (with_reducible first | exact HB.out | apply pA | apply pN | apply pD | refine pS ?_ GE365.out) | exact HB.out))) : w.heap.size ≤ gb366)); have n4_ := Aside0.mk ((by rw [hg]; exact (below_size (by repeat (first | (with_reducible first | exact HB.out | apply pA | apply pN | apply pD | refine pS ?_ GE365.out) | exact HB.out))) : w.heap.size ≤ gb366)); have n5_ := Aside0.mk ((by rw [hg]; exact Nat.ne_of_lt (blk_lt (g := gb365) (o := .cells #[.slice A0_0 l0_0.length c0_0, .bool a0_1] 38 (0, 0)) (zB BK365.out)) : gb365 ≠ gb366)); have n6_ := Aside0.mk ((by rw [hg]; exact Nat.ne_of_gt (blk_lt (g := gb365) (o := .cells #[.slice A0_0 l0_0.length c0_0, .bool a0_1] 38 (0, 0)) (zB BK365.out)) : gb366 ≠ gb365)); clear BK365; clear HB; have BK365 := n0_; have HB := n1_; have BK366 := n2_; have GW366 := n3_; have GE366 := n4_; have NB365_366 := n5_; have NB366_365 := n6_; clear n0_ n1_ n2_ n3_ n4_ n5_ n6_; clear hb hbox hg) | ((with_reducible refine gate_dst (N := 5) rfl ?_); refine box_event ?hg (N := 5) ?hd (cs := #[.int .u16 0, .slice none 0 0]) (t := 25) ?hr ?_; (case hd => rfl); (case hg => rfl); (case hr => first | (go_simp; done) | (go_simp; rfl)); intro gb367 hg w37 hbox hb; have n0_ := Aside0.mk (blk_below (g := gb365) (o := .cells #[.slice A0_0 l0_0.length c0_0, .bool a0_1] 38 (0, 0)) (zB BK365.out) hb); have n1_ := Aside0.mk (blk_below (g := gb366) (o := .cells #[.slice none 0 0, .bool false] 38 (0, 0)) (zB BK366.out) hb); have n2_ := Aside0.mk (below_step (by repeat (first | (with_reducible first | exact HB.out | apply pA | apply pN | apply pD | refine pS ?_ GE365.out | refine pS ?_ GE366.out) | exact HB.out)) hb); have n3_ := Aside0.mk (hbox); have n4_ := Aside0.mk ((by rw [hg]; exact (below_size (by repeat (first | (with_reducible first | exact HB.out | apply pA | apply pN | apply pD | refine pS ?_ GE365.out | refine pS ?_ GE366.out) | exact HB.out))) : w.heap.size ≤ gb367)); have n5_ := Aside0.mk ((by rw [hg]; exact (below_size (by repeat (first | (with_reducible first | exact HB.out | apply pA | apply pN | apply pD | refine pS ?_ GE365.out | refine pS ?_ GE366.out) | exact HB.out))) : w.heap.size ≤ gb367)); have n6_ := Aside0.mk ((by rw [hg]; exact Nat.ne_of_lt (blk_lt (g := gb365) (o := .cells #[.slice A0_0 l0_0.length c0_0, .bool a0_1] 38 (0, 0)) (zB BK365.out)) : gb365 ≠ gb367)); have n7_ := Aside0.mk ((by rw [hg]; exact Nat.ne_of_gt (blk_lt (g := gb365) (o := .cells #[.slice A0_0 l0_0.length c0_0, .bool a0_1] 38 (0, 0)) (zB BK365.out)) : gb367 ≠ gb365)); have n8_ := Aside0.mk ((by rw [hg]; exact Nat.ne_of_lt (blk_lt (g := gb366) (o := .cells #[.slice none 0 0, .bool false] 38 (0, 0)) (zB BK366.out)) : gb366 ≠ gb367)); have n9_ := Aside0.mk ((by rw [hg]; exact Nat.ne_of_gt (blk_lt (g := gb366) (o := .cells #[.slice none 0 0, .bool false] 38 (0, 0)) (zB BK366.out)) : gb367 ≠ gb366)); clear BK365; clear BK366; clear HB; have BK365 := n0_; have BK366 := n1_; have HB := n2_; have BK367 := n3_; have GW367 := n4_; have GE367 := n5_; have NB365_367 := n6_; have NB367_365 := n7_; have NB366_367 := n8_; have NB367_366 := n9_; clear n0_ n1_ n2_ n3_ n4_ n5_ n6_ n7_ n8_ n9_; clear hb hbox hg; have hnb38 := NB365_366.out; have hnc38 := NB366_365.out; have hnb39 := NB365_367.out; have hnc39 := NB367_365.out; obtain ⟨hcz40_0, hcz40_1, hfz40_0, hfz40_1⟩ := bk2 BK365.out) | ((with_reducible refine gate_callee (f := 28) rfl ?_); refine goesL_ (some 15) rfl rfl Try.func28 (by kernel_rfl) rfl #[.agg #[.slice A0_0 l0_0.length c0_0, .bool a0_1], .int .u8 a1] rfl (by (try simp only [List.map_toArray, List.map_cons, List.map_nil]); first | done | rfl | (simp only [List.length_drop, List.length_take]; rfl)) ?_; (with_reducible refine (portreeveref07_Feed.calls k _ _ l0_0 a0_1 a1 t368 t371 t372 false _ ?side1 ?side2 A3.out).mono ?_); (case side1 => repeat (first | exact (Kd.C_below HR0_0.out HB.out) | (with_reducible refine Kd.C_alloc ?_ _) | (with_reducible refine Kd.C_drewN ?_ _) | (with_reducible refine Kd.C_drew ?_))); (case side2 => exact HC0_0.out); rintro e w41 ⟨v369, v373, rfl, ho0, ho1, hb⟩; refine ⟨_, rfl, ?_⟩; have n0_ := Aside0.mk (Kd.R_lower (Kd.R_newM (M := fun k_ => (w.heap.size ≤ k_)) ho0 (below_size (by repeat (first | (with_reducible first | exact HB.out | apply pA | apply pN | apply pD | refine pS ?_ GE365.out | refine pS ?_ GE366.out | refine pS ?_ GE367.out) | exact HB.out))) (fun k_ h_ => h_)) (below_size (by repeat (first | (with_reducible first | exact HB.out | apply pA | apply pN | apply pD | refine pS ?_ GE365.out | refine pS ?_ GE366.out | refine pS ?_ GE367.out) | exact HB.out)))); have n1_ := Aside0.mk (Kd.R_lower (Kd.R_newM (M := fun k_ => (w.heap.size ≤ k_)) ho1 (below_size (by repeat (first | (with_reducible first | exact HB.out | apply pA | apply pN | apply pD | refine pS ?_ GE365.out | refine pS ?_ GE366.out | refine pS ?_ GE367.out) | exact HB.out))) (fun k_ h_ => h_)) (below_size (by repeat (first | (with_reducible first | exact HB.out | apply pA | apply pN | apply pD | refine pS ?_ GE365.out | refine pS ?_ GE366.out | refine pS ?_ GE367.out) | exact HB.out)))); have n2_ := Aside0.mk (blk_below (g := gb365) (o := .cells #[.slice A0_0 l0_0.length c0_0, .bool a0_1] 38 (0, 0)) (zB BK365.out) hb); have n3_ := Aside0.mk (blk_below (g := gb366) (o := .cells #[.slice none 0 0, .bool false] 38 (0, 0)) (zB BK366.out) hb); have n4_ := Aside0.mk (blk_below (g := gb367) (o := .cells #[.int .u16 0, .slice none 0 0] 25 (0, 0)) (zB BK367.out) hb); have n5_ := Aside0.mk (below_step (by repeat (first | (with_reducible first | exact HB.out | apply pA | apply pN | apply pD | refine pS ?_ GE365.out | refine pS ?_ GE366.out | refine pS ?_ GE367.out) | exact HB.out)) hb); clear BK365; clear BK366; clear BK367; clear HB; have HO370 := n0_; have HO374 := n1_; have BK365 := n2_; have BK366 := n3_; have BK367 := n4_; have HB := n5_; clear n0_ n1_ n2_ n3_ n4_ n5_; (try clear hb); (try clear hb2); (try clear hk); (try clear hi); (try clear ho0); (try clear ho1)) | ((with_reducible refine gate_dst (N := 7) rfl ?_); refine box_event ?hg (N := 7) ?hd (cs := #[.slice none 0 0, .bool false]) (t := 38) ?hr ?_; (case hd => rfl); (case hg => rfl); (case hr => first | (go_simp; done) | (go_simp; rfl)); intro gb376 hg w42 hbox hb; have n0_ := Aside0.mk (Kd.R_below (zR HO370.out) hb); have n1_ := Aside0.mk (Kd.R_below (zR HO374.out) hb); have n2_ := Aside0.mk (blk_below (g := gb365) (o := .cells #[.slice A0_0 l0_0.length c0_0, .bool a0_1] 38 (0, 0)) (zB BK365.out) hb); have n3_ := Aside0.mk (blk_below (g := gb366) (o := .cells #[.slice none 0 0, .bool false] 38 (0, 0)) (zB BK366.out) hb); have n4_ := Aside0.mk (blk_below (g := gb367) (o := .cells #[.int .u16 0, .slice none 0 0] 25 (0, 0)) (zB BK367.out) hb); have n5_ := Aside0.mk (below_step (by repeat (first | (with_reducible first | exact HB.out | apply pA | apply pN | apply pD | refine pS ?_ GE365.out | refine pS ?_ GE366.out | refine pS ?_ GE367.out) | exact HB.out)) hb); have n6_ := Aside0.mk (hbox); have n7_ := Aside0.mk ((by rw [hg]; exact (below_size (by repeat (first | (with_reducible first | exact HB.out | apply pA | apply pN | apply pD | refine pS ?_ GE365.out | refine pS ?_ GE366.out | refine pS ?_ GE367.out) | exact HB.out))) : w.heap.size ≤ gb376)); have n8_ := Aside0.mk ((by rw [hg]; exact (below_size (by repeat (first | (with_reducible first | exact HB.out | apply pA | apply pN | apply pD | refine pS ?_ GE365.out | refine pS ?_ GE366.out | refine pS ?_ GE367.out) | exact HB.out))) : w.heap.size ≤ gb376)); have n9_ := Aside0.mk ((by rw [hg]; exact Nat.ne_of_lt (blk_lt (g := gb365) (o := .cells #[.slice A0_0 l0_0.length c0_0, .bool a0_1] 38 (0, 0)) (zB BK365.out)) : gb365 ≠ gb376)); have n10_ := Aside0.mk ((by rw [hg]; exact Nat.ne_of_gt (blk_lt (g := gb365) (o := .cells #[.slice A0_0 l0_0.length c0_0, .bool a0_1] 38 (0, 0)) (zB BK365.out)) : gb376 ≠ gb365)); have n11_ := Aside0.mk ((by rw [hg]; exact Nat.ne_of_lt (blk_lt (g := gb366) (o := .cells #[.slice none 0 0, .bool false] 38 (0, 0)) (zB BK366.out)) : gb366 ≠ gb376)); have n12_ := Aside0.mk ((by rw [hg]; exact Nat.ne_of_gt (blk_lt (g := gb366) (o := .cells #[.slice none 0 0, .bool false] 38 (0, 0)) (zB BK366.out)) : gb376 ≠ gb366)); have n13_ := Aside0.mk ((by rw [hg]; exact Nat.ne_of_lt (blk_lt (g := gb367) (o := .cells #[.int .u16 0, .slice none 0 0] 25 (0, 0)) (zB BK367.out)) : gb367 ≠ gb376)); have n14_ := Aside0.mk ((by rw [hg]; exact Nat.ne_of_gt (blk_lt (g := gb367) (o := .cells #[.int .u16 0, .slice none 0 0] 25 (0, 0)) (zB BK367.out)) : gb376 ≠ gb367)); clear HO370; clear HO374; clear BK365; clear BK366; clear BK367; clear HB; have HO370 := n0_; have HO374 := n1_; have BK365 := n2_; have BK366 := n3_; have BK367 := n4_; have HB := n5_; have BK376 := n6_; have GW376 := n7_; have GE376 := n8_; have NB365_376 := n9_; have NB376_365 := n10_; have NB366_376 := n11_; have NB376_366 := n12_; have NB367_376 := n13_; have NB376_367 := n14_; clear n0_ n1_ n2_ n3_ n4_ n5_ n6_ n7_ n8_ n9_ n10_ n11_ n12_ n13_ n14_; clear hb hbox hg; obtain ⟨Ao43, co43, eo43⟩ := Kd.R_slice HO370.out; subst eo43; have hnb44 := NB376_365.out; have hnc44 := NB365_376.out; have hnb45 := NB376_366.out; have hnc45 := NB366_376.out; have hnb46 := NB376_367.out; have hnc46 := NB367_376.out; obtain ⟨hcz47_0, hcz47_1, hfz47_0, hfz47_1⟩ := bk2 BK376.out; have hnb48 := NB366_367.out; have hnc48 := NB367_366.out; obtain ⟨hcz49_0, hcz49_1, hfz49_0, hfz49_1⟩ := bk2 BK366.out; obtain ⟨hcz50_0, hcz50_1, hfz50_0, hfz50_1⟩ := bk2 BK367.out))
  refine bodyPost_ret (results_list (rs := [.cell 4 38, .cell 5 25, .tmp 6]) rfl (by simp) (.cell gb366 38 #[.slice Ao43 t368.length co43, .bool t371] (0, 0) _ rfl (by (with_reducible repeat (first | refine qN ?_ _ | refine qD ?_ | refine qA ?_ _)); refine blk_far ?_ NB366_367.out _; (with_reducible repeat (first | refine qN ?_ _ | refine qD ?_ | refine qA ?_ _)); refine blk_far ?_ NB366_367.out _; (with_reducible repeat (first | refine qN ?_ _ | refine qD ?_ | refine qA ?_ _)); refine blk_put (cs := #[.slice Ao43 t368.length co43, .bool false]) ?_ 1 _ rfl; (with_reducible repeat (first | refine qN ?_ _ | refine qD ?_ | refine qA ?_ _)); refine blk_put (cs := #[.slice none 0 0, .bool false]) ?_ 0 _ rfl; (with_reducible repeat (first | refine qN ?_ _ | refine qD ?_ | refine qA ?_ _)); refine blk_far ?_ NB366_376.out _; (with_reducible repeat (first | refine qN ?_ _ | refine qD ?_ | refine qA ?_ _)); refine blk_far ?_ NB366_376.out _; (with_reducible repeat (first | refine qN ?_ _ | refine qD ?_ | refine qA ?_ _)); exact BK366.out) Try.underlying38 rfl (by kernel_rfl) (.cell gb367 25 #[.int .u16 0, .slice none 0 0] (0, 0) _ rfl (by (with_reducible repeat (first | refine qN ?_ _ | refine qD ?_ | refine qA ?_ _)); refine blk_put (cs := #[.int .u16 0, .slice none 0 0]) ?_ 1 _ rfl; (with_reducible repeat (first | refine qN ?_ _ | refine qD ?_ | refine qA ?_ _)); refine blk_put (cs := #[.int .u16 0, .slice none 0 0]) ?_ 0 _ rfl; (with_reducible repeat (first | refine qN ?_ _ | refine qD ?_ | refine qA ?_ _)); refine blk_far ?_ NB367_366.out _; (with_reducible repeat (first | refine qN ?_ _ | refine qD ?_ | refine qA ?_ _)); refine blk_far ?_ NB367_366.out _; (with_reducible repeat (first | refine qN ?_ _ | refine qD ?_ | refine qA ?_ _)); refine blk_far ?_ NB367_376.out _; (with_reducible repeat (first | refine qN ?_ _ | refine qD ?_ | refine qA ?_ _)); refine blk_far ?_ NB367_376.out _; (with_reducible repeat (first | refine qN ?_ _ | refine qD ?_ | refine qA ?_ _)); exact BK367.out) Try.underlying25 rfl (by kernel_rfl) (.tmp .nil)))) rfl ?_
  exact ⟨_, _, by first | rfl | (simp [errW_none, errW_some] <;> rfl) | (simp [*, errW_none, errW_some] <;> rfl), zR (Kd.R_mono (Kd.R_far (p := ⟨gb367, 1, none⟩) (Kd.R_far (p := ⟨gb367, 0, none⟩) (Kd.R_far (p := ⟨gb366, 1, none⟩) (Kd.R_far (p := ⟨gb366, 0, none⟩) (Kd.R_far (p := ⟨gb376, 1, none⟩) (Kd.R_far (p := ⟨gb376, 0, none⟩) (Kd.R_types (Kd.R_types (Kd.R_types HO370.out BK376.out (by decide)) BK366.out (by decide)) BK367.out (by decide)) (fun _ hk => hk.1.1.2) (.slice Ao43 t368.length co43)) (fun _ hk => hk.1.1.2) (.bool t371)) (fun _ hk => hk.1.2) (.slice Ao43 t368.length co43)) (fun _ hk => hk.1.2) (.bool t371)) (fun _ hk => hk.2) (.int .u16 0)) (fun _ hk => hk.2) (.slice none 0 0)) (fun _ hk => hk.1.1.1.1)), (Kd.V_nil _ _ _ _ _), by repeat (first | (with_reducible first | exact HB.out | apply pA | apply pN | apply pD | refine pS ?_ GE365.out | refine pS ?_ GE366.out | refine pS ?_ GE367.out | refine pS ?_ GE376.out) | exact HB.out)⟩

end Go.Proofs.Ytangahcilefelaa.Q

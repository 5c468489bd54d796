-- written by this session's own program (wip/tools/myprint.py), over the kit's print
import Derived.Test.YtocjadhpaecpaaaQx0
import Derived.Test.YtocjadhpaecpaaaQx17
namespace Go.Proofs.Ytocjadhpaecpaaa.Q
open Go.RowKit Go.Proofs.YtocjadhpaecpaaaW.PrintWords Go.Proofs.YtocjadhpaecpaaaW.PrintLast Go.Proofs.YtocjadhpaecpaaaW.PrintMore
open Go.Proofs.YtocjadhpaecpaaaV
attribute [local go_sem] max2_int min2_int max_two min_two max_three min_three max_four min_four   -- for this text's walks alone
set_option linter.unusedVariables false
set_option linter.unusedSimpArgs false

/-! ### portreevelaw16_may: function 10 -/
def portreevelaw16_may.f (k : Nat) (a0_0 : Int) (l0_1 : List (S76)) (l0_2 : List (S72)) (l0_3 : List (S64)) (a1 : ByteArray) (a2 : Int) : Option (Bool) := (portreeveref04_Right.f k a0_0 l0_1 l0_2 l0_3).bind fun t193 => (if t193 = true then (if (a1.size : Int) ≥ 1 then (if (a1.size : Int) ≤ 16 then (if a2 ≥ 0 then (some (decide (a2 ≤ 1000000000))) else (some false)) else (some false)) else (some false)) else (some false))
theorem portreevelaw16_may.mono : ∀ a0 a1 a2 a3 a4 a5 k, LeO (portreevelaw16_may.f k a0 a1 a2 a3 a4 a5) (portreevelaw16_may.f (k + 1) a0 a1 a2 a3 a4 a5) := by
 intro a0 a1 a2 a3 a4 a5 k
 unfold portreevelaw16_may.f
 repeat' first
   | (with_reducible exact portreeveref04_Right.mono _ _ _ _ _)
   | (with_reducible exact LeO.refl _)
   | (with_reducible exact LeO.none _)
   | (with_reducible refine LeO.ite ?_ ?_)
   | (with_reducible refine LeO.bind ?_ (fun _ => ?_))
   | exact portreeveref04_Right.mono _ _ _ _ _
   | exact LeO.none _
   | refine LeO.ite ?_ ?_
   | refine LeO.bind ?_ (fun _ => ?_)
set_option maxHeartbeats 8000000 in
set_option maxRecDepth 100000 in
theorem portreevelaw16_may.calls (k : Nat) (af : Int) (ah : Option Addr) (ai : Nat) (ab : List (S76)) (aj : Option Addr) (ak : Nat) (ac : List (S72)) (al : Option Addr) (am : Nat) (ad : List (S64)) (a1 : ByteArray) (a2 : Int) (r : Bool) (w : World) (hr0_1 : Kd.C k76 w ah ab.length ab) (hc0_1 : ab.length ≤ ai) (hr0_2 : Kd.C k72 w aj ac.length ac) (hc0_2 : ac.length ≤ ak) (hr0_3 : Kd.C k64 w al ad.length ad) (hc0_3 : ad.length ≤ am) (h : portreevelaw16_may.f k af ab ac ad a1 a2 = some r) :
  Calls Try.prog 10 #[.agg #[.int .i64 af, .slice ah ab.length ai, .slice aj ac.length ak, .slice al ad.length am], .string a1, .int .i64 a2] w fun e w' => e = .returned (.bool r) ∧ Below w.heap.size w w' := by
 have hu26 := Try.underlying26
 have an := Aside0.mk hr0_1
 have HC0_1 := Aside0.mk hc0_1
 clear hr0_1 hc0_1
 have ao := Aside0.mk hr0_2
 have HC0_2 := Aside0.mk hc0_2
 clear hr0_2 hc0_2
 have ap := Aside0.mk hr0_3
 have HC0_3 := Aside0.mk hc0_3
 clear hr0_3 hc0_3
 have HB := Aside0.mk (Below.refl w.heap.size w)
 have H : ((portreeveref04_Right.f k af ab ac ad).bind fun ar => (if ar = true then (if (a1.size : Int) ≥ 1 then (if (a1.size : Int) ≤ 16 then (if a2 ≥ 0 then (some (decide (a2 ≤ 1000000000))) else (some false)) else (some false)) else (some false)) else (some false))) = some r := h
 clear h
 replace H := Option.bind_eq_some_iff.mp H
 obtain ⟨ar, au, H⟩ := H
 replace H : (if ar = true then (if (a1.size : Int) ≥ 1 then (if (a1.size : Int) ≤ 16 then (if a2 ≥ 0 then (some (decide (a2 ≤ 1000000000))) else (some false)) else (some false)) else (some false)) else (some false)) = some r := H
 have A4 := Aside0.mk au
 clear au
 by_cases c5 : ar = true
 ·subst c5
  have H1 : (if (a1.size : Int) ≥ 1 then (if (a1.size : Int) ≤ 16 then (if a2 ≥ 0 then (some (decide (a2 ≤ 1000000000))) else (some false)) else (some false)) else (some false)) = some r := by rw [if_pos rfl] at H; exact H
  clear H
  have H := H1
  clear H1
  by_cases c6 : (a1.size : Int) ≥ 1
  ·rw [if_pos c6] at H
   have av : decide (1 ≤ (a1.size : Int)) = true := decide_eq_true c6
   have aw : decide (1 ≤ a1.size) = true := decide_eq_true (by omega)
   clear c6
   by_cases c7 : (a1.size : Int) ≤ 16
   ·rw [if_pos c7] at H
    have ax : decide ((a1.size : Int) ≤ 16) = true := decide_eq_true c7
    have ay : decide (a1.size ≤ 16) = true := decide_eq_true (by omega)
    clear c7
    by_cases c8 : a2 ≥ 0
    ·rw [if_pos c8] at H
     have az : decide (0 ≤ a2) = true := decide_eq_true c8
     clear c8
     obtain rfl := Option.some.inj H
     go_enter Try.func10, Try.ntmps10
     go_wp2_with (first | ((with_reducible refine gate_dst (N := 3) rfl ?_); (try (refine gate_guard (by rfl) ?_; dsimp only)); refine box_event ?hg (N := 3) ?hd (cs := #[.int .i64 af, .slice ah ab.length ai, .slice aj ac.length ak, .slice al ad.length am]) (t := 26) ?hr ?_; (case hd => rfl); (case hg => rfl); (case hr => first | (go_simp; done) | (go_simp; rfl)); intro ae hg w9 hbox hb; have n0_ := Aside0.mk (below_step (zH HB.out) hb); have n1_ := Aside0.mk (hbox); have n2_ := Aside0.mk ((by rw [hg]; exact (below_size (zH HB.out)) : w.heap.size ≤ ae)); have n3_ := Aside0.mk ((by rw [hg]; exact (below_size (zH HB.out)) : w.heap.size ≤ ae)); clear HB; have HB := n0_; have aa := n1_; have aq := n2_; have ag := n3_; clear n0_ n1_ n2_ n3_; clear hb hbox hg; obtain ⟨aA, aB, aC, aD, aE, aF, aG, aH⟩ := bk4 aa.out) | ((with_reducible refine gate_callee (f := 17) rfl ?_); refine goesL_ (some 8) rfl rfl Try.func17 (by kernel_rfl) rfl #[.agg #[.int .i64 af, .slice ah ab.length ai, .slice aj ac.length ak, .slice al ad.length am]] rfl (by (try simp only [List.map_toArray, List.map_cons, List.map_nil]); first | done | rfl | (simp only [List.length_drop, List.length_take]; rfl)) ?_; (with_reducible refine (portreeveref04_Right.calls k af _ _ ab _ _ ac _ _ ad true _ ?side1 ?side2 ?side3 ?side4 ?side5 ?side6 A4.out).mono ?_); (case side1 => repeat (first | exact (Kd.C_below an.out HB.out) | (with_reducible refine Kd.C_alloc ?_ _) | (with_reducible refine Kd.C_drewN ?_ _) | (with_reducible refine Kd.C_drew ?_))); (case side2 => exact HC0_1.out); (case side3 => repeat (first | exact (Kd.C_below ao.out HB.out) | (with_reducible refine Kd.C_alloc ?_ _) | (with_reducible refine Kd.C_drewN ?_ _) | (with_reducible refine Kd.C_drew ?_))); (case side4 => exact HC0_2.out); (case side5 => repeat (first | exact (Kd.C_below ap.out HB.out) | (with_reducible refine Kd.C_alloc ?_ _) | (with_reducible refine Kd.C_drewN ?_ _) | (with_reducible refine Kd.C_drew ?_))); (case side6 => exact HC0_3.out); rintro e w11 ⟨rfl, hb⟩; refine ⟨_, rfl, ?_⟩; have n0_ := Aside0.mk (blk_below (g := ae) (o := .cells #[.int .i64 af, .slice ah ab.length ai, .slice aj ac.length ak, .slice al ad.length am] 26 (0, 0)) (zB aa.out) hb); have n1_ := Aside0.mk (below_step (by repeat (first | (with_reducible first | exact HB.out | apply pA | apply pN | apply pD | refine pS ?_ ag.out) | exact HB.out)) hb); clear aa; clear HB; have aa := n0_; have HB := n1_; clear n0_ n1_; (try clear hb); (try clear hb2); (try clear hk); (try clear hi)))
     go_ret
     exact ⟨by first | rfl | (simp [errW_none, errW_some] <;> rfl) | (simp [*, errW_none, errW_some] <;> rfl), by repeat (first | (with_reducible first | exact HB.out | apply pA | apply pN | apply pD | refine pS ?_ ag.out) | exact HB.out)⟩
    ·rw [if_neg c8] at H
     have az : decide (0 ≤ a2) = false := decide_eq_false c8
     clear c8
     obtain rfl := Option.some.inj H
     go_enter Try.func10, Try.ntmps10
     go_wp2_with (first | ((with_reducible refine gate_dst (N := 3) rfl ?_); (try (refine gate_guard (by rfl) ?_; dsimp only)); refine box_event ?hg (N := 3) ?hd (cs := #[.int .i64 af, .slice ah ab.length ai, .slice aj ac.length ak, .slice al ad.length am]) (t := 26) ?hr ?_; (case hd => rfl); (case hg => rfl); (case hr => first | (go_simp; done) | (go_simp; rfl)); intro ae hg w12 hbox hb; have n0_ := Aside0.mk (below_step (zH HB.out) hb); have n1_ := Aside0.mk (hbox); have n2_ := Aside0.mk ((by rw [hg]; exact (below_size (zH HB.out)) : w.heap.size ≤ ae)); have n3_ := Aside0.mk ((by rw [hg]; exact (below_size (zH HB.out)) : w.heap.size ≤ ae)); clear HB; have HB := n0_; have aa := n1_; have aq := n2_; have ag := n3_; clear n0_ n1_ n2_ n3_; clear hb hbox hg; obtain ⟨aI, aJ, aK, aL, aM, aN, aO, aP⟩ := bk4 aa.out) | ((with_reducible refine gate_callee (f := 17) rfl ?_); refine goesL_ (some 8) rfl rfl Try.func17 (by kernel_rfl) rfl #[.agg #[.int .i64 af, .slice ah ab.length ai, .slice aj ac.length ak, .slice al ad.length am]] rfl (by (try simp only [List.map_toArray, List.map_cons, List.map_nil]); first | done | rfl | (simp only [List.length_drop, List.length_take]; rfl)) ?_; (with_reducible refine (portreeveref04_Right.calls k af _ _ ab _ _ ac _ _ ad true _ ?side1 ?side2 ?side3 ?side4 ?side5 ?side6 A4.out).mono ?_); (case side1 => repeat (first | exact (Kd.C_below an.out HB.out) | (with_reducible refine Kd.C_alloc ?_ _) | (with_reducible refine Kd.C_drewN ?_ _) | (with_reducible refine Kd.C_drew ?_))); (case side2 => exact HC0_1.out); (case side3 => repeat (first | exact (Kd.C_below ao.out HB.out) | (with_reducible refine Kd.C_alloc ?_ _) | (with_reducible refine Kd.C_drewN ?_ _) | (with_reducible refine Kd.C_drew ?_))); (case side4 => exact HC0_2.out); (case side5 => repeat (first | exact (Kd.C_below ap.out HB.out) | (with_reducible refine Kd.C_alloc ?_ _) | (with_reducible refine Kd.C_drewN ?_ _) | (with_reducible refine Kd.C_drew ?_))); (case side6 => exact HC0_3.out); rintro e w14 ⟨rfl, hb⟩; refine ⟨_, rfl, ?_⟩; have n0_ := Aside0.mk (blk_below (g := ae) (o := .cells #[.int .i64 af, .slice ah ab.length ai, .slice aj ac.length ak, .slice al ad.length am] 26 (0, 0)) (zB aa.out) hb); have n1_ := Aside0.mk (below_step (by repeat (first | (with_reducible first | exact HB.out | apply pA | apply pN | apply pD | refine pS ?_ ag.out) | exact HB.out)) hb); clear aa; clear HB; have aa := n0_; have HB := n1_; clear n0_ n1_; (try clear hb); (try clear hb2); (try clear hk); (try clear hi)))
     go_ret
     exact ⟨by first | rfl | (simp [errW_none, errW_some] <;> rfl) | (simp [*, errW_none, errW_some] <;> rfl), by repeat (first | (with_reducible first | exact HB.out | apply pA | apply pN | apply pD | refine pS ?_ ag.out) | exact HB.out)⟩
   ·rw [if_neg c7] at H
    have ax : decide ((a1.size : Int) ≤ 16) = false := decide_eq_false c7
    have ay : decide (a1.size ≤ 16) = false := decide_eq_false (by omega)
    clear c7
    obtain rfl := Option.some.inj H
    go_enter Try.func10, Try.ntmps10
    go_wp2_with (first | ((with_reducible refine gate_dst (N := 3) rfl ?_); (try (refine gate_guard (by rfl) ?_; dsimp only)); refine box_event ?hg (N := 3) ?hd (cs := #[.int .i64 af, .slice ah ab.length ai, .slice aj ac.length ak, .slice al ad.length am]) (t := 26) ?hr ?_; (case hd => rfl); (case hg => rfl); (case hr => first | (go_simp; done) | (go_simp; rfl)); intro ae hg w15 hbox hb; have n0_ := Aside0.mk (below_step (zH HB.out) hb); have n1_ := Aside0.mk (hbox); have n2_ := Aside0.mk ((by rw [hg]; exact (below_size (zH HB.out)) : w.heap.size ≤ ae)); have n3_ := Aside0.mk ((by rw [hg]; exact (below_size (zH HB.out)) : w.heap.size ≤ ae)); clear HB; have HB := n0_; have aa := n1_; have aq := n2_; have ag := n3_; clear n0_ n1_ n2_ n3_; clear hb hbox hg; obtain ⟨aQ, aR, aS, aT, aU, aV, aW, aX⟩ := bk4 aa.out) | ((with_reducible refine gate_callee (f := 17) rfl ?_); refine goesL_ (some 8) rfl rfl Try.func17 (by kernel_rfl) rfl #[.agg #[.int .i64 af, .slice ah ab.length ai, .slice aj ac.length ak, .slice al ad.length am]] rfl (by (try simp only [List.map_toArray, List.map_cons, List.map_nil]); first | done | rfl | (simp only [List.length_drop, List.length_take]; rfl)) ?_; (with_reducible refine (portreeveref04_Right.calls k af _ _ ab _ _ ac _ _ ad true _ ?side1 ?side2 ?side3 ?side4 ?side5 ?side6 A4.out).mono ?_); (case side1 => repeat (first | exact (Kd.C_below an.out HB.out) | (with_reducible refine Kd.C_alloc ?_ _) | (with_reducible refine Kd.C_drewN ?_ _) | (with_reducible refine Kd.C_drew ?_))); (case side2 => exact HC0_1.out); (case side3 => repeat (first | exact (Kd.C_below ao.out HB.out) | (with_reducible refine Kd.C_alloc ?_ _) | (with_reducible refine Kd.C_drewN ?_ _) | (with_reducible refine Kd.C_drew ?_))); (case side4 => exact HC0_2.out); (case side5 => repeat (first | exact (Kd.C_below ap.out HB.out) | (with_reducible refine Kd.C_alloc ?_ _) | (with_reducible refine Kd.C_drewN ?_ _) | (with_reducible refine Kd.C_drew ?_))); (case side6 => exact HC0_3.out); rintro e w17 ⟨rfl, hb⟩; refine ⟨_, rfl, ?_⟩; have n0_ := Aside0.mk (blk_below (g := ae) (o := .cells #[.int .i64 af, .slice ah ab.length ai, .slice aj ac.length ak, .slice al ad.length am] 26 (0, 0)) (zB aa.out) hb); have n1_ := Aside0.mk (below_step (by repeat (first | (with_reducible first | exact HB.out | apply pA | apply pN | apply pD | refine pS ?_ ag.out) | exact HB.out)) hb); clear aa; clear HB; have aa := n0_; have HB := n1_; clear n0_ n1_; (try clear hb); (try clear hb2); (try clear hk); (try clear hi)))
    go_ret
    exact ⟨by first | rfl | (simp [errW_none, errW_some] <;> rfl) | (simp [*, errW_none, errW_some] <;> rfl), by repeat (first | (with_reducible first | exact HB.out | apply pA | apply pN | apply pD | refine pS ?_ ag.out) | exact HB.out)⟩
  ·rw [if_neg c6] at H
   have av : decide (1 ≤ (a1.size : Int)) = false := decide_eq_false c6
   have aw : decide (1 ≤ a1.size) = false := decide_eq_false (by omega)
   clear c6
   obtain rfl := Option.some.inj H
   go_enter Try.func10, Try.ntmps10
   go_wp2_with (first | ((with_reducible refine gate_dst (N := 3) rfl ?_); (try (refine gate_guard (by rfl) ?_; dsimp only)); refine box_event ?hg (N := 3) ?hd (cs := #[.int .i64 af, .slice ah ab.length ai, .slice aj ac.length ak, .slice al ad.length am]) (t := 26) ?hr ?_; (case hd => rfl); (case hg => rfl); (case hr => first | (go_simp; done) | (go_simp; rfl)); intro ae hg w18 hbox hb; have n0_ := Aside0.mk (below_step (zH HB.out) hb); have n1_ := Aside0.mk (hbox); have n2_ := Aside0.mk ((by rw [hg]; exact (below_size (zH HB.out)) : w.heap.size ≤ ae)); have n3_ := Aside0.mk ((by rw [hg]; exact (below_size (zH HB.out)) : w.heap.size ≤ ae)); clear HB; have HB := n0_; have aa := n1_; have aq := n2_; have ag := n3_; clear n0_ n1_ n2_ n3_; clear hb hbox hg; obtain ⟨aY, aZ, a6, a7, a8, a9, ba, bb⟩ := bk4 aa.out) | ((with_reducible refine gate_callee (f := 17) rfl ?_); refine goesL_ (some 8) rfl rfl Try.func17 (by kernel_rfl) rfl #[.agg #[.int .i64 af, .slice ah ab.length ai, .slice aj ac.length ak, .slice al ad.length am]] rfl (by (try simp only [List.map_toArray, List.map_cons, List.map_nil]); first | done | rfl | (simp only [List.length_drop, List.length_take]; rfl)) ?_; (with_reducible refine (portreeveref04_Right.calls k af _ _ ab _ _ ac _ _ ad true _ ?side1 ?side2 ?side3 ?side4 ?side5 ?side6 A4.out).mono ?_); (case side1 => repeat (first | exact (Kd.C_below an.out HB.out) | (with_reducible refine Kd.C_alloc ?_ _) | (with_reducible refine Kd.C_drewN ?_ _) | (with_reducible refine Kd.C_drew ?_))); (case side2 => exact HC0_1.out); (case side3 => repeat (first | exact (Kd.C_below ao.out HB.out) | (with_reducible refine Kd.C_alloc ?_ _) | (with_reducible refine Kd.C_drewN ?_ _) | (with_reducible refine Kd.C_drew ?_))); (case side4 => exact HC0_2.out); (case side5 => repeat (first | exact (Kd.C_below ap.out HB.out) | (with_reducible refine Kd.C_alloc ?_ _) | (with_reducible refine Kd.C_drewN ?_ _) | (with_reducible refine Kd.C_drew ?_))); (case side6 => exact HC0_3.out); rintro e w20 ⟨rfl, hb⟩; refine ⟨_, rfl, ?_⟩; have n0_ := Aside0.mk (blk_below (g := ae) (o := .cells #[.int .i64 af, .slice ah ab.length ai, .slice aj ac.length ak, .slice al ad.length am] 26 (0, 0)) (zB aa.out) hb); have n1_ := Aside0.mk (below_step (by repeat (first | (with_reducible first | exact HB.out | apply pA | apply pN | apply pD | refine pS ?_ ag.out) | exact HB.out)) hb); clear aa; clear HB; have aa := n0_; have HB := n1_; clear n0_ n1_; (try clear hb); (try clear hb2); (try clear hk); (try clear hi)))
   go_ret
   exact ⟨by first | rfl | (simp [errW_none, errW_some] <;> rfl) | (simp [*, errW_none, errW_some] <;> rfl), by repeat (first | (with_reducible first | exact HB.out | apply pA | apply pN | apply pD | refine pS ?_ ag.out) | exact HB.out)⟩
 ·replace c5 := Bool.eq_false_iff.mpr c5
  subst c5
  have H1 : (some false) = some r := by rw [if_neg (show ¬ (false = true) by decide)] at H; exact H
  clear H
  have H := H1
  clear H1
  obtain rfl := Option.some.inj H
  go_enter Try.func10, Try.ntmps10
  go_wp2_with (first | ((with_reducible refine gate_dst (N := 3) rfl ?_); (try (refine gate_guard (by rfl) ?_; dsimp only)); refine box_event ?hg (N := 3) ?hd (cs := #[.int .i64 af, .slice ah ab.length ai, .slice aj ac.length ak, .slice al ad.length am]) (t := 26) ?hr ?_; (case hd => rfl); (case hg => rfl); (case hr => first | (go_simp; done) | (go_simp; rfl)); intro ae hg w21 hbox hb; have n0_ := Aside0.mk (below_step (zH HB.out) hb); have n1_ := Aside0.mk (hbox); have n2_ := Aside0.mk ((by rw [hg]; exact (below_size (zH HB.out)) : w.heap.size ≤ ae)); have n3_ := Aside0.mk ((by rw [hg]; exact (below_size (zH HB.out)) : w.heap.size ≤ ae)); clear HB; have HB := n0_; have aa := n1_; have aq := n2_; have ag := n3_; clear n0_ n1_ n2_ n3_; clear hb hbox hg; obtain ⟨bc, bd, be, bf, bg, bh, bi, bj⟩ := bk4 aa.out) | ((with_reducible refine gate_callee (f := 17) rfl ?_); refine goesL_ (some 8) rfl rfl Try.func17 (by kernel_rfl) rfl #[.agg #[.int .i64 af, .slice ah ab.length ai, .slice aj ac.length ak, .slice al ad.length am]] rfl (by (try simp only [List.map_toArray, List.map_cons, List.map_nil]); first | done | rfl | (simp only [List.length_drop, List.length_take]; rfl)) ?_; (with_reducible refine (portreeveref04_Right.calls k af _ _ ab _ _ ac _ _ ad false _ ?side1 ?side2 ?side3 ?side4 ?side5 ?side6 A4.out).mono ?_); (case side1 => repeat (first | exact (Kd.C_below an.out HB.out) | (with_reducible refine Kd.C_alloc ?_ _) | (with_reducible refine Kd.C_drewN ?_ _) | (with_reducible refine Kd.C_drew ?_))); (case side2 => exact HC0_1.out); (case side3 => repeat (first | exact (Kd.C_below ao.out HB.out) | (with_reducible refine Kd.C_alloc ?_ _) | (with_reducible refine Kd.C_drewN ?_ _) | (with_reducible refine Kd.C_drew ?_))); (case side4 => exact HC0_2.out); (case side5 => repeat (first | exact (Kd.C_below ap.out HB.out) | (with_reducible refine Kd.C_alloc ?_ _) | (with_reducible refine Kd.C_drewN ?_ _) | (with_reducible refine Kd.C_drew ?_))); (case side6 => exact HC0_3.out); rintro e w23 ⟨rfl, hb⟩; refine ⟨_, rfl, ?_⟩; have n0_ := Aside0.mk (blk_below (g := ae) (o := .cells #[.int .i64 af, .slice ah ab.length ai, .slice aj ac.length ak, .slice al ad.length am] 26 (0, 0)) (zB aa.out) hb); have n1_ := Aside0.mk (below_step (by repeat (first | (with_reducible first | exact HB.out | apply pA | apply pN | apply pD | refine pS ?_ ag.out) | exact HB.out)) hb); clear aa; clear HB; have aa := n0_; have HB := n1_; clear n0_ n1_; (try clear hb); (try clear hb2); (try clear hk); (try clear hi)))
  go_ret
  exact ⟨by first | rfl | (simp [errW_none, errW_some] <;> rfl) | (simp [*, errW_none, errW_some] <;> rfl), by repeat (first | (with_reducible first | exact HB.out | apply pA | apply pN | apply pD | refine pS ?_ ag.out) | exact HB.out)⟩

end Go.Proofs.Ytocjadhpaecpaaa.Q

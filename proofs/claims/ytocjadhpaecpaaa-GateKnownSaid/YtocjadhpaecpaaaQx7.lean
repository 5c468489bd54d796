-- written by this session's own program (wip/tools/myprint.py), over the kit's print
import Derived.Test.YtocjadhpaecpaaaQx0
import Derived.Test.YtocjadhpaecpaaaQx6
namespace Go.Proofs.Ytocjadhpaecpaaa.Q
open Go.RowKit Go.Proofs.YtocjadhpaecpaaaW.PrintWords Go.Proofs.YtocjadhpaecpaaaW.PrintLast Go.Proofs.YtocjadhpaecpaaaW.PrintMore
open Go.Proofs.YtocjadhpaecpaaaV
attribute [local go_sem] max2_int min2_int max_two min_two max_three min_three max_four min_four   -- for this text's walks alone
set_option linter.unusedVariables false
set_option linter.unusedSimpArgs false

/-! ### gate_Until: function 15 -/
def gate_Until.f (a0_0 : Int) (l0_1 : List (S76)) (l0_2 : List (S72)) (l0_3 : List (S64)) (a1 : ByteArray) : Option (Int) := (gate_Failed.f a0_0 l0_1 l0_2 l0_3 a1).bind fun bt102 => (if bt102.1 < 3 then (some 0) else (some (wrap64 (bt102.2 + 20))))
set_option maxHeartbeats 8000000 in
set_option maxRecDepth 100000 in
theorem gate_Until.calls (ae : Int) (ag : Option Addr) (ah : Nat) (aa : List (S76)) (ai : Option Addr) (aj : Nat) (ab : List (S72)) (ak : Option Addr) (al : Nat) (ac : List (S64)) (a1 : ByteArray) (r : Int) (w : World) (hr0_1 : Kd.C k76 w ag aa.length aa) (hc0_1 : aa.length ≤ ah) (hr0_2 : Kd.C k72 w ai ab.length ab) (hc0_2 : ab.length ≤ aj) (hr0_3 : Kd.C k64 w ak ac.length ac) (hc0_3 : ac.length ≤ al) (h : gate_Until.f ae aa ab ac a1 = some r) :
  Calls Try.prog 15 #[.agg #[.int .i64 ae, .slice ag aa.length ah, .slice ai ab.length aj, .slice ak ac.length al], .string a1] w fun e w' => e = .returned (.int .i64 r) ∧ Below w.heap.size w w' := by
 have hu26 := Try.underlying26
 have ap := Aside0.mk hr0_1
 have HC0_1 := Aside0.mk hc0_1
 clear hr0_1 hc0_1
 have aq := Aside0.mk hr0_2
 have HC0_2 := Aside0.mk hc0_2
 clear hr0_2 hc0_2
 have ar := Aside0.mk hr0_3
 have HC0_3 := Aside0.mk hc0_3
 clear hr0_3 hc0_3
 have HB := Aside0.mk (Below.refl w.heap.size w)
 have H : ((gate_Failed.f ae aa ab ac a1).bind fun au => (if au.1 < 3 then (some 0) else (some (wrap64 (au.2 + 20))))) = some r := h
 clear h
 replace H := Option.bind_eq_some_iff.mp H
 obtain ⟨⟨an, ao⟩, aw, H⟩ := H
 replace H : (if an < 3 then (some 0) else (some (wrap64 (ao + 20)))) = some r := H
 have A3 := Aside0.mk aw
 clear aw
 by_cases c4 : an < 3
 ·rw [if_pos c4] at H
  have ax : decide (an < 3) = true := decide_eq_true c4
  clear c4
  obtain rfl := Option.some.inj H
  go_enter Try.func15, Try.ntmps15
  go_wp2_with (first | ((with_reducible refine gate_dst (N := 2) rfl ?_); refine box_event ?hg (N := 2) ?hd (cs := #[.int .i64 ae, .slice ag aa.length ah, .slice ai ab.length aj, .slice ak ac.length al]) (t := 26) ?hr ?_; (case hd => rfl); (case hg => rfl); (case hr => first | (go_simp; done) | (go_simp; rfl)); intro af hg w5 hbox hb; have n0_ := Aside0.mk (below_step (zH HB.out) hb); have n1_ := Aside0.mk (hbox); have n2_ := Aside0.mk ((by rw [hg]; exact (below_size (zH HB.out)) : w.heap.size ≤ af)); have n3_ := Aside0.mk ((by rw [hg]; exact (below_size (zH HB.out)) : w.heap.size ≤ af)); clear HB; have HB := n0_; have ad := n1_; have av := n2_; have am := n3_; clear n0_ n1_ n2_ n3_; clear hb hbox hg; obtain ⟨ay, az, aA, aB, aC, aD, aE, aF⟩ := bk4 ad.out) | ((with_reducible refine gate_callee (f := 12) rfl ?_); refine goesL_ (some 10) rfl rfl Try.func12 (by kernel_rfl) rfl #[.agg #[.int .i64 ae, .slice ag aa.length ah, .slice ai ab.length aj, .slice ak ac.length al], .string a1] rfl (by (try simp only [List.map_toArray, List.map_cons, List.map_nil]); first | done | rfl | (simp only [List.length_drop, List.length_take]; rfl)) ?_; (with_reducible refine (gate_Failed.calls ae _ _ aa _ _ ab _ _ ac a1 an ao _ ?side1 ?side2 ?side3 ?side4 ?side5 ?side6 A3.out).mono ?_); (case side1 => repeat (first | exact (Kd.C_below ap.out HB.out) | (with_reducible refine Kd.C_alloc ?_ _) | (with_reducible refine Kd.C_drewN ?_ _) | (with_reducible refine Kd.C_drew ?_))); (case side2 => exact HC0_1.out); (case side3 => repeat (first | exact (Kd.C_below aq.out HB.out) | (with_reducible refine Kd.C_alloc ?_ _) | (with_reducible refine Kd.C_drewN ?_ _) | (with_reducible refine Kd.C_drew ?_))); (case side4 => exact HC0_2.out); (case side5 => repeat (first | exact (Kd.C_below ar.out HB.out) | (with_reducible refine Kd.C_alloc ?_ _) | (with_reducible refine Kd.C_drewN ?_ _) | (with_reducible refine Kd.C_drew ?_))); (case side6 => exact HC0_3.out); rintro e w7 ⟨rfl, hb⟩; refine ⟨_, rfl, ?_⟩; have n0_ := Aside0.mk (blk_below (g := af) (o := .cells #[.int .i64 ae, .slice ag aa.length ah, .slice ai ab.length aj, .slice ak ac.length al] 26 (0, 0)) (zB ad.out) hb); have n1_ := Aside0.mk (below_step (by repeat (first | (with_reducible first | exact HB.out | apply pA | apply pN | apply pD | refine pS ?_ am.out) | exact HB.out)) hb); clear ad; clear HB; have ad := n0_; have HB := n1_; clear n0_ n1_; (try clear hb); (try clear hb2); (try clear hk); (try clear hi)))
  go_ret
  exact ⟨by first | rfl | (simp [errW_none, errW_some] <;> rfl) | (simp [*, errW_none, errW_some] <;> rfl), by repeat (first | (with_reducible first | exact HB.out | apply pA | apply pN | apply pD | refine pS ?_ am.out) | exact HB.out)⟩
 ·rw [if_neg c4] at H
  have ax : decide (an < 3) = false := decide_eq_false c4
  clear c4
  obtain rfl := Option.some.inj H
  go_enter Try.func15, Try.ntmps15
  go_wp2_with (first | ((with_reducible refine gate_dst (N := 2) rfl ?_); refine box_event ?hg (N := 2) ?hd (cs := #[.int .i64 ae, .slice ag aa.length ah, .slice ai ab.length aj, .slice ak ac.length al]) (t := 26) ?hr ?_; (case hd => rfl); (case hg => rfl); (case hr => first | (go_simp; done) | (go_simp; rfl)); intro af hg w8 hbox hb; have n0_ := Aside0.mk (below_step (zH HB.out) hb); have n1_ := Aside0.mk (hbox); have n2_ := Aside0.mk ((by rw [hg]; exact (below_size (zH HB.out)) : w.heap.size ≤ af)); have n3_ := Aside0.mk ((by rw [hg]; exact (below_size (zH HB.out)) : w.heap.size ≤ af)); clear HB; have HB := n0_; have ad := n1_; have av := n2_; have am := n3_; clear n0_ n1_ n2_ n3_; clear hb hbox hg; obtain ⟨aG, aH, aI, aJ, aK, aL, aM, aN⟩ := bk4 ad.out) | ((with_reducible refine gate_callee (f := 12) rfl ?_); refine goesL_ (some 10) rfl rfl Try.func12 (by kernel_rfl) rfl #[.agg #[.int .i64 ae, .slice ag aa.length ah, .slice ai ab.length aj, .slice ak ac.length al], .string a1] rfl (by (try simp only [List.map_toArray, List.map_cons, List.map_nil]); first | done | rfl | (simp only [List.length_drop, List.length_take]; rfl)) ?_; (with_reducible refine (gate_Failed.calls ae _ _ aa _ _ ab _ _ ac a1 an ao _ ?side1 ?side2 ?side3 ?side4 ?side5 ?side6 A3.out).mono ?_); (case side1 => repeat (first | exact (Kd.C_below ap.out HB.out) | (with_reducible refine Kd.C_alloc ?_ _) | (with_reducible refine Kd.C_drewN ?_ _) | (with_reducible refine Kd.C_drew ?_))); (case side2 => exact HC0_1.out); (case side3 => repeat (first | exact (Kd.C_below aq.out HB.out) | (with_reducible refine Kd.C_alloc ?_ _) | (with_reducible refine Kd.C_drewN ?_ _) | (with_reducible refine Kd.C_drew ?_))); (case side4 => exact HC0_2.out); (case side5 => repeat (first | exact (Kd.C_below ar.out HB.out) | (with_reducible refine Kd.C_alloc ?_ _) | (with_reducible refine Kd.C_drewN ?_ _) | (with_reducible refine Kd.C_drew ?_))); (case side6 => exact HC0_3.out); rintro e w10 ⟨rfl, hb⟩; refine ⟨_, rfl, ?_⟩; have n0_ := Aside0.mk (blk_below (g := af) (o := .cells #[.int .i64 ae, .slice ag aa.length ah, .slice ai ab.length aj, .slice ak ac.length al] 26 (0, 0)) (zB ad.out) hb); have n1_ := Aside0.mk (below_step (by repeat (first | (with_reducible first | exact HB.out | apply pA | apply pN | apply pD | refine pS ?_ am.out) | exact HB.out)) hb); clear ad; clear HB; have ad := n0_; have HB := n1_; clear n0_ n1_; (try clear hb); (try clear hb2); (try clear hk); (try clear hi)))
  go_ret
  exact ⟨by first | rfl | (simp [errW_none, errW_some] <;> rfl) | (simp [*, errW_none, errW_some] <;> rfl), by repeat (first | (with_reducible first | exact HB.out | apply pA | apply pN | apply pD | refine pS ?_ am.out) | exact HB.out)⟩

/-! ### gate_Locked: function 13 -/
def gate_Locked.f (a0_0 : Int) (l0_1 : List (S76)) (l0_2 : List (S72)) (l0_3 : List (S64)) (a1 : ByteArray) (a2 : Int) : Option (Bool) := (gate_Until.f a0_0 l0_1 l0_2 l0_3 a1).bind fun t105 => (some (decide (a2 < t105)))
set_option maxHeartbeats 8000000 in
set_option maxRecDepth 100000 in
theorem gate_Locked.calls (ad : Int) (af : Option Addr) (ag : Nat) (aa : List (S76)) (ah : Option Addr) (ai : Nat) (ab : List (S72)) (aj : Option Addr) (ak : Nat) (ac : List (S64)) (a1 : ByteArray) (a2 : Int) (r : Bool) (w : World) (hr0_1 : Kd.C k76 w af aa.length aa) (hc0_1 : aa.length ≤ ag) (hr0_2 : Kd.C k72 w ah ab.length ab) (hc0_2 : ab.length ≤ ai) (hr0_3 : Kd.C k64 w aj ac.length ac) (hc0_3 : ac.length ≤ ak) (h : gate_Locked.f ad aa ab ac a1 a2 = some r) :
  Calls Try.prog 13 #[.agg #[.int .i64 ad, .slice af aa.length ag, .slice ah ab.length ai, .slice aj ac.length ak], .string a1, .int .i64 a2] w fun e w' => e = .returned (.bool r) ∧ Below w.heap.size w w' := by
 have hu26 := Try.underlying26
 have ao := Aside0.mk hr0_1
 have HC0_1 := Aside0.mk hc0_1
 clear hr0_1 hc0_1
 have ap := Aside0.mk hr0_2
 have HC0_2 := Aside0.mk hc0_2
 clear hr0_2 hc0_2
 have aq := Aside0.mk hr0_3
 have HC0_3 := Aside0.mk hc0_3
 clear hr0_3 hc0_3
 have HB := Aside0.mk (Below.refl w.heap.size w)
 have H : ((gate_Until.f ad aa ab ac a1).bind fun al => (some (decide (a2 < al)))) = some r := h
 clear h
 replace H := Option.bind_eq_some_iff.mp H
 obtain ⟨al, ar, H⟩ := H
 replace H : (some (decide (a2 < al))) = some r := H
 have A4 := Aside0.mk ar
 clear ar
 obtain rfl := Option.some.inj H
 go_enter Try.func13, Try.ntmps13
 go_wp2_with (first | ((with_reducible refine gate_dst (N := 3) rfl ?_); refine box_event ?hg (N := 3) ?hd (cs := #[.int .i64 ad, .slice af aa.length ag, .slice ah ab.length ai, .slice aj ac.length ak]) (t := 26) ?hr ?_; (case hd => rfl); (case hg => rfl); (case hr => first | (go_simp; done) | (go_simp; rfl)); intro am hg w5 hbox hb; have n0_ := Aside0.mk (below_step (zH HB.out) hb); have n1_ := Aside0.mk (hbox); have n2_ := Aside0.mk ((by rw [hg]; exact (below_size (zH HB.out)) : w.heap.size ≤ am)); have n3_ := Aside0.mk ((by rw [hg]; exact (below_size (zH HB.out)) : w.heap.size ≤ am)); clear HB; have HB := n0_; have ae := n1_; have aC := n2_; have an := n3_; clear n0_ n1_ n2_ n3_; clear hb hbox hg; obtain ⟨au, av, aw, ax, ay, az, aA, aB⟩ := bk4 ae.out) | ((with_reducible refine gate_callee (f := 15) rfl ?_); refine goesL_ (some 10) rfl rfl Try.func15 (by kernel_rfl) rfl #[.agg #[.int .i64 ad, .slice af aa.length ag, .slice ah ab.length ai, .slice aj ac.length ak], .string a1] rfl (by (try simp only [List.map_toArray, List.map_cons, List.map_nil]); first | done | rfl | (simp only [List.length_drop, List.length_take]; rfl)) ?_; (with_reducible refine (gate_Until.calls ad _ _ aa _ _ ab _ _ ac a1 al _ ?side1 ?side2 ?side3 ?side4 ?side5 ?side6 A4.out).mono ?_); (case side1 => repeat (first | exact (Kd.C_below ao.out HB.out) | (with_reducible refine Kd.C_alloc ?_ _) | (with_reducible refine Kd.C_drewN ?_ _) | (with_reducible refine Kd.C_drew ?_))); (case side2 => exact HC0_1.out); (case side3 => repeat (first | exact (Kd.C_below ap.out HB.out) | (with_reducible refine Kd.C_alloc ?_ _) | (with_reducible refine Kd.C_drewN ?_ _) | (with_reducible refine Kd.C_drew ?_))); (case side4 => exact HC0_2.out); (case side5 => repeat (first | exact (Kd.C_below aq.out HB.out) | (with_reducible refine Kd.C_alloc ?_ _) | (with_reducible refine Kd.C_drewN ?_ _) | (with_reducible refine Kd.C_drew ?_))); (case side6 => exact HC0_3.out); rintro e w7 ⟨rfl, hb⟩; refine ⟨_, rfl, ?_⟩; have n0_ := Aside0.mk (blk_below (g := am) (o := .cells #[.int .i64 ad, .slice af aa.length ag, .slice ah ab.length ai, .slice aj ac.length ak] 26 (0, 0)) (zB ae.out) hb); have n1_ := Aside0.mk (below_step (by repeat (first | (with_reducible first | exact HB.out | apply pA | apply pN | apply pD | refine pS ?_ an.out) | exact HB.out)) hb); clear ae; clear HB; have ae := n0_; have HB := n1_; clear n0_ n1_; (try clear hb); (try clear hb2); (try clear hk); (try clear hi)))
 go_ret
 exact ⟨by first | rfl | (simp [errW_none, errW_some] <;> rfl) | (simp [*, errW_none, errW_some] <;> rfl), by repeat (first | (with_reducible first | exact HB.out | apply pA | apply pN | apply pD | refine pS ?_ an.out) | exact HB.out)⟩

/-! ### book_between: function 38 -/
def book_between.f (a0 : Int) (a1 : Int) : Option (Bool) := if a0 ≥ 0 then (some (decide (a0 ≤ a1))) else (some false)
set_option maxHeartbeats 8000000 in
set_option maxRecDepth 100000 in
theorem book_between.calls (a0 : Int) (a1 : Int) (r : Bool) (w : World) (h : book_between.f a0 a1 = some r) :
    Calls Try.prog 38 #[.int .i64 a0, .int .i64 a1] w fun e w' => e = .returned (.bool r) ∧ Drawn0 w w' := by
  have H : (if a0 ≥ 0 then (some (decide (a0 ≤ a1))) else (some false)) = some r := h
  clear h
  by_cases c3 : a0 ≥ 0
  · rw [if_pos c3] at H
    have aa : decide (0 ≤ a0) = true := decide_eq_true c3
    clear c3
    obtain rfl := Option.some.inj H
    go_enter Try.func38, Try.ntmps38
    go_wp2
    go_ret
    exact ⟨by first | rfl | (simp; done) | (simp [*]; done), by repeat (first | exact Drawn0.refl _ | apply Drawn0.step)⟩
  · rw [if_neg c3] at H
    have aa : decide (0 ≤ a0) = false := decide_eq_false c3
    clear c3
    obtain rfl := Option.some.inj H
    go_enter Try.func38, Try.ntmps38
    go_wp2
    go_ret
    exact ⟨by first | rfl | (simp; done) | (simp [*]; done), by repeat (first | exact Drawn0.refl _ | apply Drawn0.step)⟩

/-! ### book_isUser: function 39 -/
def book_isUser.f (a0 : ByteArray) : Option (Bool) := if a0.toList = ([] : List UInt8) then (some false) else (some (decide ((a0.size : Int) ≤ 16)))
set_option maxHeartbeats 8000000 in
set_option maxRecDepth 100000 in
theorem book_isUser.calls (a0 : ByteArray) (r : Bool) (w : World) (h : book_isUser.f a0 = some r) :
    Calls Try.prog 39 #[.string a0] w fun e w' => e = .returned (.bool r) ∧ Drawn0 w w' := by
  have H : (if a0.toList = ([] : List UInt8) then (some false) else (some (decide ((a0.size : Int) ≤ 16)))) = some r := h
  clear h
  by_cases c2 : a0.toList = ([] : List UInt8)
  · rw [if_pos c2] at H
    have aa : (a0.toList == ([] : List UInt8)) = true := beq_iff_eq.mpr c2
    have ab : (a0.toList != ([] : List UInt8)) = false := bne_eq_false_iff_eq.mpr c2
    clear c2
    obtain rfl := Option.some.inj H
    go_enter Try.func39, Try.ntmps39
    go_wp2
    go_ret
    exact ⟨by first | rfl | (simp; done) | (simp [*]; done), by repeat (first | exact Drawn0.refl _ | apply Drawn0.step)⟩
  · rw [if_neg c2] at H
    have aa : (a0.toList == ([] : List UInt8)) = false := beq_eq_false_iff_ne.mpr c2
    have ab : (a0.toList != ([] : List UInt8)) = true := bne_iff_ne.mpr c2
    obtain rfl := Option.some.inj H
    go_enter Try.func39, Try.ntmps39
    go_wp2
    go_ret
    exact ⟨by first | rfl | (simp; done) | (simp [*]; done), by repeat (first | exact Drawn0.refl _ | apply Drawn0.step)⟩

end Go.Proofs.Ytocjadhpaecpaaa.Q

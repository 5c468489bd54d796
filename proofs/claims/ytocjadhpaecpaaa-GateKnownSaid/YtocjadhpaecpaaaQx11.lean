-- written by this session's own program (wip/tools/myprint.py), over the kit's print
import Derived.Test.YtocjadhpaecpaaaQx0
import Derived.Test.YtocjadhpaecpaaaQx6
import Derived.Test.YtocjadhpaecpaaaQx7
import Derived.Test.YtocjadhpaecpaaaQx10
namespace Go.Proofs.Ytocjadhpaecpaaa.Q
open Go.RowKit Go.Proofs.YtocjadhpaecpaaaW.PrintWords Go.Proofs.YtocjadhpaecpaaaW.PrintLast Go.Proofs.YtocjadhpaecpaaaW.PrintMore
open Go.Proofs.YtocjadhpaecpaaaV
attribute [local go_sem] max2_int min2_int max_two min_two max_three min_three max_four min_four   -- for this text's walks alone
set_option linter.unusedVariables false
set_option linter.unusedSimpArgs false

/-! ### portreevelaw16_shown_g: function 9 -/
def portreevelaw16_shown_g.f (k : Nat)  : Option (Bool) := (some (([(⟨(⟨#[117]⟩ : ByteArray), 3, 7⟩ : S64)] : List (S64)) : List (S64))).bind fun y136 => ((gate_Failed.f 0 ([] : List (S76)) ([] : List (S72)) y136 (⟨#[117]⟩ : ByteArray)).bind fun bt140 => ((gate_Verdict.f k 0 ([] : List (S76)) ([] : List (S72)) y136 (⟨#[117]⟩ : ByteArray) true true 27).bind fun bt142 => ((gate_Verdict.f k 0 ([] : List (S76)) ([] : List (S72)) y136 (⟨#[117]⟩ : ByteArray) true true 26).bind fun bt146 => ((gate_Until.f 0 ([] : List (S76)) ([] : List (S72)) y136 (⟨#[117]⟩ : ByteArray)).bind fun t150 => (if t150 = 27 then ((gate_Locked.f 0 ([] : List (S76)) ([] : List (S72)) y136 (⟨#[117]⟩ : ByteArray) 26).bind fun t151 => (if t151 = true then ((gate_Locked.f 0 ([] : List (S76)) ([] : List (S72)) y136 (⟨#[117]⟩ : ByteArray) 27).bind fun t152 => (if t152 = true then (some false) else (if bt140.1 = 3 then (if bt140.2 = 7 then (if bt142.1 = true then (if (bt142.2.length : Int) = 1 then (if 0 < (bt142.2.length : Int) then (if ((rd_T41 bt142.2 0).f0) = 5 then (if bt146.1 = true then (some false) else (some ((bt146.2.length : Int) == 0))) else (some false)) else (none)) else (some false)) else (some false)) else (some false)) else (some false)))) else (some false))) else (some false))))))
theorem portreevelaw16_shown_g.mono : ∀ k, LeO (portreevelaw16_shown_g.f k ) (portreevelaw16_shown_g.f (k + 1) ) := by
 intro  k
 unfold portreevelaw16_shown_g.f
 repeat' first
   | (with_reducible exact gate_Verdict.mono _ _ _ _ _ _ _ _ _)
   | (with_reducible exact LeO.refl _)
   | (with_reducible exact LeO.none _)
   | (with_reducible refine LeO.ite ?_ ?_)
   | (with_reducible refine LeO.bind ?_ (fun _ => ?_))
   | exact gate_Verdict.mono _ _ _ _ _ _ _ _ _
   | exact LeO.none _
   | refine LeO.ite ?_ ?_
   | refine LeO.bind ?_ (fun _ => ?_)
set_option maxHeartbeats 8000000 in
set_option maxRecDepth 100000 in
theorem portreevelaw16_shown_g.calls (k : Nat)  (r : Bool) (w : World) (hlaw_ : Aside0 (r = true)) (h : portreevelaw16_shown_g.f k  = some r) :
  Calls Try.prog 9 #[] w fun e w' => e = .returned (.bool r) ∧ Below w.heap.size w w' := by
 have hu64 := Try.underlying64
 have hu26 := Try.underlying26
 have hu41 := Try.underlying41
 have HB := Aside0.mk (Below.refl w.heap.size w)
 have H : ((some (([(⟨(⟨#[117]⟩ : ByteArray), 3, 7⟩ : S64)] : List (S64)) : List (S64))).bind fun aa => ((gate_Failed.f 0 ([] : List (S76)) ([] : List (S72)) aa (⟨#[117]⟩ : ByteArray)).bind fun aw => ((gate_Verdict.f k 0 ([] : List (S76)) ([] : List (S72)) aa (⟨#[117]⟩ : ByteArray) true true 27).bind fun ai => ((gate_Verdict.f k 0 ([] : List (S76)) ([] : List (S72)) aa (⟨#[117]⟩ : ByteArray) true true 26).bind fun al => ((gate_Until.f 0 ([] : List (S76)) ([] : List (S72)) aa (⟨#[117]⟩ : ByteArray)).bind fun ak => (if ak = 27 then ((gate_Locked.f 0 ([] : List (S76)) ([] : List (S72)) aa (⟨#[117]⟩ : ByteArray) 26).bind fun am => (if am = true then ((gate_Locked.f 0 ([] : List (S76)) ([] : List (S72)) aa (⟨#[117]⟩ : ByteArray) 27).bind fun ag => (if ag = true then (some false) else (if aw.1 = 3 then (if aw.2 = 7 then (if ai.1 = true then (if (ai.2.length : Int) = 1 then (if 0 < (ai.2.length : Int) then (if ((rd_T41 ai.2 0).f0) = 5 then (if al.1 = true then (some false) else (some ((al.2.length : Int) == 0))) else (some false)) else (none)) else (some false)) else (some false)) else (some false)) else (some false)))) else (some false))) else (some false))))))) = some r := h
 clear h
 obtain ⟨aa, hy136⟩ : ∃ y_ : List (S64), y_ = (([(⟨(⟨#[117]⟩ : ByteArray), 3, 7⟩ : S64)] : List (S64))) := ⟨_, rfl⟩
 replace H : ((gate_Failed.f 0 ([] : List (S76)) ([] : List (S72)) aa (⟨#[117]⟩ : ByteArray)).bind fun aw => ((gate_Verdict.f k 0 ([] : List (S76)) ([] : List (S72)) aa (⟨#[117]⟩ : ByteArray) true true 27).bind fun ai => ((gate_Verdict.f k 0 ([] : List (S76)) ([] : List (S72)) aa (⟨#[117]⟩ : ByteArray) true true 26).bind fun al => ((gate_Until.f 0 ([] : List (S76)) ([] : List (S72)) aa (⟨#[117]⟩ : ByteArray)).bind fun ak => (if ak = 27 then ((gate_Locked.f 0 ([] : List (S76)) ([] : List (S72)) aa (⟨#[117]⟩ : ByteArray) 26).bind fun am => (if am = true then ((gate_Locked.f 0 ([] : List (S76)) ([] : List (S72)) aa (⟨#[117]⟩ : ByteArray) 27).bind fun ag => (if ag = true then (some false) else (if aw.1 = 3 then (if aw.2 = 7 then (if ai.1 = true then (if (ai.2.length : Int) = 1 then (if 0 < (ai.2.length : Int) then (if ((rd_T41 ai.2 0).f0) = 5 then (if al.1 = true then (some false) else (some ((al.2.length : Int) == 0))) else (some false)) else (none)) else (some false)) else (some false)) else (some false)) else (some false)))) else (some false))) else (some false)))))) = some r := by first | (rw [hy136]; with_reducible exact H) | (have H2_ := (Option.bind_some _ _).symm.trans H; rw [hy136]; with_reducible exact H2_) | (have H2_ := (Option.bind_some _ _).symm.trans H; with_reducible exact H2_) | with_reducible exact H | (rw [hy136]; exact H) | exact H
 have ax := Aside0.mk hy136
 clear hy136
 replace H := Option.bind_eq_some_iff.mp H
 obtain ⟨⟨an, ao⟩, aG, H⟩ := H
 replace H : ((gate_Verdict.f k 0 ([] : List (S76)) ([] : List (S72)) aa (⟨#[117]⟩ : ByteArray) true true 27).bind fun ai => ((gate_Verdict.f k 0 ([] : List (S76)) ([] : List (S72)) aa (⟨#[117]⟩ : ByteArray) true true 26).bind fun al => ((gate_Until.f 0 ([] : List (S76)) ([] : List (S72)) aa (⟨#[117]⟩ : ByteArray)).bind fun ak => (if ak = 27 then ((gate_Locked.f 0 ([] : List (S76)) ([] : List (S72)) aa (⟨#[117]⟩ : ByteArray) 26).bind fun am => (if am = true then ((gate_Locked.f 0 ([] : List (S76)) ([] : List (S72)) aa (⟨#[117]⟩ : ByteArray) 27).bind fun ag => (if ag = true then (some false) else (if an = 3 then (if ao = 7 then (if ai.1 = true then (if (ai.2.length : Int) = 1 then (if 0 < (ai.2.length : Int) then (if ((rd_T41 ai.2 0).f0) = 5 then (if al.1 = true then (some false) else (some ((al.2.length : Int) == 0))) else (some false)) else (none)) else (some false)) else (some false)) else (some false)) else (some false)))) else (some false))) else (some false))))) = some r := H
 have A1 := Aside0.mk aG
 clear aG
 replace H := Option.bind_eq_some_iff.mp H
 obtain ⟨⟨au, ac⟩, aH, H⟩ := H
 replace H : ((gate_Verdict.f k 0 ([] : List (S76)) ([] : List (S72)) aa (⟨#[117]⟩ : ByteArray) true true 26).bind fun al => ((gate_Until.f 0 ([] : List (S76)) ([] : List (S72)) aa (⟨#[117]⟩ : ByteArray)).bind fun ak => (if ak = 27 then ((gate_Locked.f 0 ([] : List (S76)) ([] : List (S72)) aa (⟨#[117]⟩ : ByteArray) 26).bind fun am => (if am = true then ((gate_Locked.f 0 ([] : List (S76)) ([] : List (S72)) aa (⟨#[117]⟩ : ByteArray) 27).bind fun ag => (if ag = true then (some false) else (if an = 3 then (if ao = 7 then (if au = true then (if (ac.length : Int) = 1 then (if 0 < (ac.length : Int) then (if ((rd_T41 ac 0).f0) = 5 then (if al.1 = true then (some false) else (some ((al.2.length : Int) == 0))) else (some false)) else (none)) else (some false)) else (some false)) else (some false)) else (some false)))) else (some false))) else (some false)))) = some r := H
 have A2 := Aside0.mk aH
 clear aH
 replace H := Option.bind_eq_some_iff.mp H
 obtain ⟨⟨av, ar⟩, aI, H⟩ := H
 replace H : ((gate_Until.f 0 ([] : List (S76)) ([] : List (S72)) aa (⟨#[117]⟩ : ByteArray)).bind fun ak => (if ak = 27 then ((gate_Locked.f 0 ([] : List (S76)) ([] : List (S72)) aa (⟨#[117]⟩ : ByteArray) 26).bind fun am => (if am = true then ((gate_Locked.f 0 ([] : List (S76)) ([] : List (S72)) aa (⟨#[117]⟩ : ByteArray) 27).bind fun ag => (if ag = true then (some false) else (if an = 3 then (if ao = 7 then (if au = true then (if (ac.length : Int) = 1 then (if 0 < (ac.length : Int) then (if ((rd_T41 ac 0).f0) = 5 then (if av = true then (some false) else (some ((ar.length : Int) == 0))) else (some false)) else (none)) else (some false)) else (some false)) else (some false)) else (some false)))) else (some false))) else (some false))) = some r := H
 have A3 := Aside0.mk aI
 clear aI
 replace H := Option.bind_eq_some_iff.mp H
 obtain ⟨ak, aJ, H⟩ := H
 replace H : (if ak = 27 then ((gate_Locked.f 0 ([] : List (S76)) ([] : List (S72)) aa (⟨#[117]⟩ : ByteArray) 26).bind fun am => (if am = true then ((gate_Locked.f 0 ([] : List (S76)) ([] : List (S72)) aa (⟨#[117]⟩ : ByteArray) 27).bind fun ag => (if ag = true then (some false) else (if an = 3 then (if ao = 7 then (if au = true then (if (ac.length : Int) = 1 then (if 0 < (ac.length : Int) then (if ((rd_T41 ac 0).f0) = 5 then (if av = true then (some false) else (some ((ar.length : Int) == 0))) else (some false)) else (none)) else (some false)) else (some false)) else (some false)) else (some false)))) else (some false))) else (some false)) = some r := H
 have A4 := Aside0.mk aJ
 clear aJ
 by_cases c5 : ak = 27
 ·rw [if_pos c5] at H
  have aM : (ak == 27) = true := beq_iff_eq.mpr c5
  have aN : (ak != 27) = false := bne_eq_false_iff_eq.mpr c5
  clear c5
  replace H := Option.bind_eq_some_iff.mp H
  obtain ⟨am, aK, H⟩ := H
  replace H : (if am = true then ((gate_Locked.f 0 ([] : List (S76)) ([] : List (S72)) aa (⟨#[117]⟩ : ByteArray) 27).bind fun ag => (if ag = true then (some false) else (if an = 3 then (if ao = 7 then (if au = true then (if (ac.length : Int) = 1 then (if 0 < (ac.length : Int) then (if ((rd_T41 ac 0).f0) = 5 then (if av = true then (some false) else (some ((ar.length : Int) == 0))) else (some false)) else (none)) else (some false)) else (some false)) else (some false)) else (some false)))) else (some false)) = some r := H
  have A6 := Aside0.mk aK
  clear aK
  by_cases c7 : am = true
  ·subst c7
   have H1 : ((gate_Locked.f 0 ([] : List (S76)) ([] : List (S72)) aa (⟨#[117]⟩ : ByteArray) 27).bind fun ag => (if ag = true then (some false) else (if an = 3 then (if ao = 7 then (if au = true then (if (ac.length : Int) = 1 then (if 0 < (ac.length : Int) then (if ((rd_T41 ac 0).f0) = 5 then (if av = true then (some false) else (some ((ar.length : Int) == 0))) else (some false)) else (none)) else (some false)) else (some false)) else (some false)) else (some false)))) = some r := by rw [if_pos rfl] at H; exact H
   clear H
   have H := H1
   clear H1
   replace H := Option.bind_eq_some_iff.mp H
   obtain ⟨ag, aL, H⟩ := H
   replace H : (if ag = true then (some false) else (if an = 3 then (if ao = 7 then (if au = true then (if (ac.length : Int) = 1 then (if 0 < (ac.length : Int) then (if ((rd_T41 ac 0).f0) = 5 then (if av = true then (some false) else (some ((ar.length : Int) == 0))) else (some false)) else (none)) else (some false)) else (some false)) else (some false)) else (some false))) = some r := H
   have A8 := Aside0.mk aL
   clear aL
   by_cases c9 : ag = true
   ·subst c9
    have H1 : (some false) = some r := by rw [if_pos rfl] at H; exact H
    clear H
    have H := H1
    clear H1
    exact absurd ((Option.some.inj H).trans hlaw_.out) (by decide)
   ·replace c9 := Bool.eq_false_iff.mpr c9
    subst c9
    have H1 : (if an = 3 then (if ao = 7 then (if au = true then (if (ac.length : Int) = 1 then (if 0 < (ac.length : Int) then (if ((rd_T41 ac 0).f0) = 5 then (if av = true then (some false) else (some ((ar.length : Int) == 0))) else (some false)) else (none)) else (some false)) else (some false)) else (some false)) else (some false)) = some r := by rw [if_neg (show ¬ (false = true) by decide)] at H; exact H
    clear H
    have H := H1
    clear H1
    by_cases c10 : an = 3
    ·rw [if_pos c10] at H
     have ay : (an == 3) = true := beq_iff_eq.mpr c10
     have az : (an != 3) = false := bne_eq_false_iff_eq.mpr c10
     clear c10
     by_cases c11 : ao = 7
     ·rw [if_pos c11] at H
      have aA : (ao == 7) = true := beq_iff_eq.mpr c11
      have aB : (ao != 7) = false := bne_eq_false_iff_eq.mpr c11
      clear c11
      by_cases c12 : au = true
      ·subst c12
       have H1 : (if (ac.length : Int) = 1 then (if 0 < (ac.length : Int) then (if ((rd_T41 ac 0).f0) = 5 then (if av = true then (some false) else (some ((ar.length : Int) == 0))) else (some false)) else (none)) else (some false)) = some r := by rw [if_pos rfl] at H; exact H
       clear H
       have H := H1
       clear H1
       by_cases c13 : (ac.length : Int) = 1
       ·rw [if_pos c13] at H
        have aC : ((ac.length : Int) == 1) = true := beq_iff_eq.mpr c13
        have aD : ((ac.length : Int) != 1) = false := bne_eq_false_iff_eq.mpr c13
        clear c13
        by_cases c14 : 0 < (ac.length : Int)
        ·rw [if_pos c14] at H
         have bE : decide (0 < (ac.length : Int)) = true := decide_eq_true c14
         have bF : decide (0 < ac.length) = true := decide_eq_true (by omega)
         clear c14
         by_cases c15 : ((rd_T41 ac 0).f0) = 5
         ·rw [if_pos c15] at H
          have aE : (((rd_T41 ac 0).f0) == 5) = true := beq_iff_eq.mpr c15
          have aF : (((rd_T41 ac 0).f0) != 5) = false := bne_eq_false_iff_eq.mpr c15
          clear c15
          by_cases c16 : av = true
          ·subst c16
           have H1 : (some false) = some r := by rw [if_pos rfl] at H; exact H
           clear H
           have H := H1
           clear H1
           exact absurd ((Option.some.inj H).trans hlaw_.out) (by decide)
          ·replace c16 := Bool.eq_false_iff.mpr c16
           subst c16
           have H1 : (some ((ar.length : Int) == 0)) = some r := by rw [if_neg (show ¬ (false = true) by decide)] at H; exact H
           clear H
           have H := H1
           clear H1
           clear hlaw_
           obtain rfl := Option.some.inj H
           go_enter Try.func9, Try.ntmps9
           go_wp2_with (first | ((with_reducible refine gate_dst (N := 9) rfl ?_); (try (refine gate_guard (by rfl) ?_; dsimp only)); refine Kd.R_lit k64 _ 64 ?hg (N := 9) ?hd (xs := ([(⟨(⟨#[117]⟩ : ByteArray), 3, 7⟩ : S64)] : List (S64))) (inner := [.string (⟨#[117]⟩ : ByteArray), .int .i64 3, .int .i64 7]) (ok := fun _ => True) (okp := fun _ => True) ?hr ?hp (fun _ hk => hk) trivial (Below.refl _ _) (Nat.le_refl _) (by simp) ?_; (case hd => rfl); (case hg => rfl); (case hr => first | (go_simp; done) | (go_simp; rfl)); (case hp => exact (Reps.c3 (show Kd.M k64 _ _ _ (⟨(⟨#[117]⟩ : ByteArray), 3, 7⟩ : S64) [.string (⟨#[117]⟩ : ByteArray), .int .i64 3, .int .i64 7] from (k64_mkM _ _ _ (⟨(⟨#[117]⟩ : ByteArray), 3, 7⟩ : S64) )) (Reps.none _ _))); intro v137 w17 ho18 hb hg_ hnew_; clear hg_ hnew_; (first | rw [← ax.out] at ho18 | (simp only [Int.reduceToNat] at ho18; rw [← ax.out] at ho18)); have n0_ := Aside0.mk (Kd.R_lower ho18 (below_size (zH HB.out))); have n1_ := Aside0.mk (below_step (zH HB.out) hb); clear HB; have ab := n0_; have HB := n1_; clear n0_ n1_; clear hb ho18; obtain ⟨ah, af, aO⟩ := Kd.R_slice ab.out; subst aO) | ((with_reducible refine gate_dst (N := 1) rfl ?_); (try (refine gate_guard (by rfl) ?_; dsimp only)); refine box_event ?hg (N := 1) ?hd (cs := #[.int .i64 0, .slice none 0 0, .slice none 0 0, .slice none 0 0]) (t := 26) ?hr ?_; (case hd => rfl); (case hg => rfl); (case hr => first | (go_simp; done) | (go_simp; rfl)); intro ae hg w20 hbox hb; have n0_ := Aside0.mk (Kd.R_below (zR ab.out) hb); have n1_ := Aside0.mk (below_step (zH HB.out) hb); have n2_ := Aside0.mk (hbox); have n3_ := Aside0.mk ((by rw [hg]; exact (below_size (zH HB.out)) : w.heap.size ≤ ae)); have n4_ := Aside0.mk ((by rw [hg]; exact (below_size (zH HB.out)) : w.heap.size ≤ ae)); clear ab; clear HB; have ab := n0_; have HB := n1_; have ad := n2_; have bG := n3_; have aq := n4_; clear n0_ n1_ n2_ n3_ n4_; clear hb hbox hg; obtain ⟨aR, aS, aT, aU, aV, aW, aX, aY⟩ := bk4 ad.out) | ((with_reducible refine gate_callee (f := 12) rfl ?_); refine goesL_ (some 13) rfl rfl Try.func12 (by kernel_rfl) rfl #[.agg #[.int .i64 0, .slice none 0 0, .slice none 0 0, .slice ah aa.length af], .string (⟨#[117]⟩ : ByteArray)] rfl (by (try simp only [List.map_toArray, List.map_cons, List.map_nil]); first | done | rfl | (simp only [List.length_drop, List.length_take]; rfl)) ?_; (refine (gate_Failed.calls 0 _ _ ([] : List (S76)) _ _ ([] : List (S72)) _ _ aa (⟨#[117]⟩ : ByteArray) an ao _ ?side1 ?side2 ?side3 ?side4 ?side5 ?side6 A1.out).mono ?_); (case side1 => exact Kd.C_nil _ _); (case side2 => exact Nat.le_refl _); (case side3 => exact Kd.C_nil _ _); (case side4 => exact Nat.le_refl _); (case side5 => refine (Kd.R_reads' (e := 64) (base := w.heap.size) (ok := fun k_ => True) (n := aa.length) (c := af) ?_).2.2; exact (zR ((Kd.R_mono (Kd.R_far (p := ⟨ae, 3, none⟩) (Kd.R_far (p := ⟨ae, 2, none⟩) (Kd.R_far (p := ⟨ae, 1, none⟩) (Kd.R_far (p := ⟨ae, 0, none⟩) (Kd.R_types ab.out ad.out (by decide)) (fun _ hk => hk.2) (.int .i64 0)) (fun _ hk => hk.2) (.slice none 0 0)) (fun _ hk => hk.2) (.slice none 0 0)) (fun _ hk => hk.2) (.slice ah aa.length af)) (fun _ h_ => h_.1))))); (case side6 => exact (Kd.R_reads' ab.out).2.1); rintro e w22 ⟨rfl, hb⟩; refine ⟨_, rfl, ?_⟩; have n0_ := Aside0.mk (Kd.R_below (zR ((Kd.R_mono (Kd.R_far (p := ⟨ae, 3, none⟩) (Kd.R_far (p := ⟨ae, 2, none⟩) (Kd.R_far (p := ⟨ae, 1, none⟩) (Kd.R_far (p := ⟨ae, 0, none⟩) (Kd.R_types ab.out ad.out (by decide)) (fun _ hk => hk.2) (.int .i64 0)) (fun _ hk => hk.2) (.slice none 0 0)) (fun _ hk => hk.2) (.slice none 0 0)) (fun _ hk => hk.2) (.slice ah aa.length af)) (fun _ h_ => h_.1)))) hb); have n1_ := Aside0.mk (blk_below (g := ae) (o := .cells #[.int .i64 0, .slice none 0 0, .slice none 0 0, .slice ah aa.length af] 26 (0, 0)) (by (with_reducible repeat (first | refine qN ?_ _ | refine qD ?_ | refine qA ?_ _)); refine blk_put (cs := #[.int .i64 0, .slice none 0 0, .slice none 0 0, .slice none 0 0]) ?_ 3 _ rfl; (with_reducible repeat (first | refine qN ?_ _ | refine qD ?_ | refine qA ?_ _)); refine blk_put (cs := #[.int .i64 0, .slice none 0 0, .slice none 0 0, .slice none 0 0]) ?_ 2 _ rfl; (with_reducible repeat (first | refine qN ?_ _ | refine qD ?_ | refine qA ?_ _)); refine blk_put (cs := #[.int .i64 0, .slice none 0 0, .slice none 0 0, .slice none 0 0]) ?_ 1 _ rfl; (with_reducible repeat (first | refine qN ?_ _ | refine qD ?_ | refine qA ?_ _)); refine blk_put (cs := #[.int .i64 0, .slice none 0 0, .slice none 0 0, .slice none 0 0]) ?_ 0 _ rfl; (with_reducible repeat (first | refine qN ?_ _ | refine qD ?_ | refine qA ?_ _)); exact ad.out) hb); have n2_ := Aside0.mk (below_step (by repeat (first | (with_reducible first | exact HB.out | apply pA | apply pN | apply pD | refine pS ?_ aq.out) | exact HB.out)) hb); clear ab; clear ad; clear HB; have ab := n0_; have ad := n1_; have HB := n2_; clear n0_ n1_ n2_; (try clear hb); (try clear hb2); (try clear hk); (try clear hi); obtain ⟨aZ, a0, a1, a2, a3, a4, a5, a6⟩ := bk4 ad.out) | ((with_reducible refine gate_callee (f := 11) rfl ?_); refine goesL_ (some 18) rfl rfl Try.func11 (by kernel_rfl) rfl #[.agg #[.int .i64 0, .slice none 0 0, .slice none 0 0, .slice ah aa.length af], .string (⟨#[117]⟩ : ByteArray), .bool true, .bool true, .int .i64 27] rfl (by (try simp only [List.map_toArray, List.map_cons, List.map_nil]); first | done | rfl | (simp only [List.length_drop, List.length_take]; rfl)) ?_; (refine (gate_Verdict.calls k 0 _ _ ([] : List (S76)) _ _ ([] : List (S72)) _ _ aa (⟨#[117]⟩ : ByteArray) true true 27 true ac _ ?side1 ?side2 ?side3 ?side4 ?side5 ?side6 A2.out).mono ?_); (case side1 => exact Kd.C_nil _ _); (case side2 => exact Nat.le_refl _); (case side3 => exact Kd.C_nil _ _); (case side4 => exact Nat.le_refl _); (case side5 => repeat (first | exact (Kd.R_reads' ab.out).2.2 | (with_reducible refine Kd.C_alloc ?_ _) | (with_reducible refine Kd.C_drewN ?_ _) | (with_reducible refine Kd.C_drew ?_))); (case side6 => exact (Kd.R_reads' ab.out).2.1); rintro e w24 ⟨v144, rfl, ho0, hb⟩; refine ⟨_, rfl, ?_⟩; have n0_ := Aside0.mk (Kd.R_below (zR ab.out) hb); have n1_ := Aside0.mk (Kd.V_lower (Kd.V_mono (ok' := fun k_ => some k_ ≠ (.slice ah aa.length af : Value).ownBlock ∧ k_ ≠ ae) ho0 (fun k_ hk_ => ⟨(Kd.fresh' (Kd.R_lt (zR ab.out)) k_ hk_), (Kd.freshB (g := ae) (o := .cells #[.int .i64 0, .slice none 0 0, .slice none 0 0, .slice ah aa.length af] 26 (0, 0)) (zB ad.out) k_ hk_)⟩)) (below_size (by repeat (first | (with_reducible first | exact HB.out | apply pA | apply pN | apply pD | refine pS ?_ aq.out) | exact HB.out)))); have n2_ := Aside0.mk (blk_below (g := ae) (o := .cells #[.int .i64 0, .slice none 0 0, .slice none 0 0, .slice ah aa.length af] 26 (0, 0)) (zB ad.out) hb); have n3_ := Aside0.mk (below_step (by repeat (first | (with_reducible first | exact HB.out | apply pA | apply pN | apply pD | refine pS ?_ aq.out) | exact HB.out)) hb); clear ab; clear ad; clear HB; have ab := n0_; have aj := n1_; have ad := n2_; have HB := n3_; clear n0_ n1_ n2_ n3_; (try clear hb); (try clear hb2); (try clear hk); (try clear hi); (try clear ho0); obtain ⟨a7, a8, a9, ba, bb, bc, bd, be⟩ := bk4 ad.out) | ((with_reducible refine gate_callee (f := 11) rfl ?_); refine goesL_ (some 23) rfl rfl Try.func11 (by kernel_rfl) rfl #[.agg #[.int .i64 0, .slice none 0 0, .slice none 0 0, .slice ah aa.length af], .string (⟨#[117]⟩ : ByteArray), .bool true, .bool true, .int .i64 26] rfl (by (try simp only [List.map_toArray, List.map_cons, List.map_nil]); first | done | rfl | (simp only [List.length_drop, List.length_take]; rfl)) ?_; (refine (gate_Verdict.calls k 0 _ _ ([] : List (S76)) _ _ ([] : List (S72)) _ _ aa (⟨#[117]⟩ : ByteArray) true true 26 false ar _ ?side1 ?side2 ?side3 ?side4 ?side5 ?side6 A3.out).mono ?_); (case side1 => exact Kd.C_nil _ _); (case side2 => exact Nat.le_refl _); (case side3 => exact Kd.C_nil _ _); (case side4 => exact Nat.le_refl _); (case side5 => repeat (first | exact (Kd.R_reads' ab.out).2.2 | (with_reducible refine Kd.C_alloc ?_ _) | (with_reducible refine Kd.C_drewN ?_ _) | (with_reducible refine Kd.C_drew ?_))); (case side6 => exact (Kd.R_reads' ab.out).2.1); rintro e w26 ⟨v148, rfl, ho0, hb⟩; refine ⟨_, rfl, ?_⟩; have n0_ := Aside0.mk (Kd.R_below (zR ab.out) hb); have n1_ := Aside0.mk (Kd.V_below (zV aj.out) hb); have n2_ := Aside0.mk (Kd.V_lower (Kd.V_mono (ok' := fun k_ => some k_ ≠ (.slice ah aa.length af : Value).ownBlock ∧ k_ ≠ ae) ho0 (fun k_ hk_ => ⟨(Kd.fresh' (Kd.R_lt (zR ab.out)) k_ hk_), (Kd.freshB (g := ae) (o := .cells #[.int .i64 0, .slice none 0 0, .slice none 0 0, .slice ah aa.length af] 26 (0, 0)) (zB ad.out) k_ hk_)⟩)) (below_size (by repeat (first | (with_reducible first | exact HB.out | apply pA | apply pN | apply pD | refine pS ?_ aq.out) | exact HB.out)))); have n3_ := Aside0.mk (blk_below (g := ae) (o := .cells #[.int .i64 0, .slice none 0 0, .slice none 0 0, .slice ah aa.length af] 26 (0, 0)) (zB ad.out) hb); have n4_ := Aside0.mk (below_step (by repeat (first | (with_reducible first | exact HB.out | apply pA | apply pN | apply pD | refine pS ?_ aq.out) | exact HB.out)) hb); clear ab; clear aj; clear ad; clear HB; have ab := n0_; have aj := n1_; have ap := n2_; have ad := n3_; have HB := n4_; clear n0_ n1_ n2_ n3_ n4_; (try clear hb); (try clear hb2); (try clear hk); (try clear hi); (try clear ho0); obtain ⟨bf, bg, bh, bi, bj, bk, bl, bm⟩ := bk4 ad.out) | ((with_reducible refine gate_callee (f := 15) rfl ?_); refine goesL_ (some 27) rfl rfl Try.func15 (by kernel_rfl) rfl #[.agg #[.int .i64 0, .slice none 0 0, .slice none 0 0, .slice ah aa.length af], .string (⟨#[117]⟩ : ByteArray)] rfl (by (try simp only [List.map_toArray, List.map_cons, List.map_nil]); first | done | rfl | (simp only [List.length_drop, List.length_take]; rfl)) ?_; (refine (gate_Until.calls 0 _ _ ([] : List (S76)) _ _ ([] : List (S72)) _ _ aa (⟨#[117]⟩ : ByteArray) ak _ ?side1 ?side2 ?side3 ?side4 ?side5 ?side6 A4.out).mono ?_); (case side1 => exact Kd.C_nil _ _); (case side2 => exact Nat.le_refl _); (case side3 => exact Kd.C_nil _ _); (case side4 => exact Nat.le_refl _); (case side5 => repeat (first | exact (Kd.R_reads' ab.out).2.2 | (with_reducible refine Kd.C_alloc ?_ _) | (with_reducible refine Kd.C_drewN ?_ _) | (with_reducible refine Kd.C_drew ?_))); (case side6 => exact (Kd.R_reads' ab.out).2.1); rintro e w28 ⟨rfl, hb⟩; refine ⟨_, rfl, ?_⟩; have n0_ := Aside0.mk (Kd.R_below (zR ab.out) hb); have n1_ := Aside0.mk (Kd.V_below (zV aj.out) hb); have n2_ := Aside0.mk (Kd.V_below (zV ap.out) hb); have n3_ := Aside0.mk (blk_below (g := ae) (o := .cells #[.int .i64 0, .slice none 0 0, .slice none 0 0, .slice ah aa.length af] 26 (0, 0)) (zB ad.out) hb); have n4_ := Aside0.mk (below_step (by repeat (first | (with_reducible first | exact HB.out | apply pA | apply pN | apply pD | refine pS ?_ aq.out) | exact HB.out)) hb); clear ab; clear aj; clear ap; clear ad; clear HB; have ab := n0_; have aj := n1_; have ap := n2_; have ad := n3_; have HB := n4_; clear n0_ n1_ n2_ n3_ n4_; (try clear hb); (try clear hb2); (try clear hk); (try clear hi); obtain ⟨bn, bo, bp, bq, br, bs, bt, bu⟩ := bk4 ad.out) | (go_at_call 13; (refine calls_of_args (args' := #[.agg #[.int .i64 0, .slice none ([] : List S76).length 0, .slice none ([] : List S72).length 0, .slice ah aa.length af], .string (⟨#[117]⟩ : ByteArray), .int .i64 26]) (by rfl) ?_); (with_reducible refine (gate_Locked.calls 0 _ _ ([] : List (S76)) _ _ ([] : List (S72)) _ _ aa (⟨#[117]⟩ : ByteArray) 26 true _ ?side1 ?side2 ?side3 ?side4 ?side5 ?side6 A6.out).mono ?_); (case side1 => exact Kd.C_nil _ _); (case side2 => exact Nat.le_refl _); (case side3 => exact Kd.C_nil _ _); (case side4 => exact Nat.le_refl _); (case side5 => repeat (first | exact (Kd.R_reads' ab.out).2.2 | (with_reducible refine Kd.C_alloc ?_ _) | (with_reducible refine Kd.C_drewN ?_ _) | (with_reducible refine Kd.C_drew ?_))); (case side6 => exact (Kd.R_reads' ab.out).2.1); rintro e w30 ⟨rfl, hb⟩; have n0_ := Aside0.mk (Kd.R_below (zR ab.out) hb); have n1_ := Aside0.mk (Kd.V_below (zV aj.out) hb); have n2_ := Aside0.mk (Kd.V_below (zV ap.out) hb); have n3_ := Aside0.mk (blk_below (g := ae) (o := .cells #[.int .i64 0, .slice none 0 0, .slice none 0 0, .slice ah aa.length af] 26 (0, 0)) (zB ad.out) hb); have n4_ := Aside0.mk (below_step (by repeat (first | (with_reducible first | exact HB.out | apply pA | apply pN | apply pD | refine pS ?_ aq.out) | exact HB.out)) hb); clear ab; clear aj; clear ap; clear ad; clear HB; have ab := n0_; have aj := n1_; have ap := n2_; have ad := n3_; have HB := n4_; clear n0_ n1_ n2_ n3_ n4_; (try clear hb); (try clear hb2); (try clear hk); (try clear hi); obtain ⟨bv, bw, bx, bz, bA, bB, bC, bD⟩ := bk4 ad.out) | (go_at_call 13; (refine calls_of_args (args' := #[.agg #[.int .i64 0, .slice none ([] : List S76).length 0, .slice none ([] : List S72).length 0, .slice ah aa.length af], .string (⟨#[117]⟩ : ByteArray), .int .i64 27]) (by rfl) ?_); (with_reducible refine (gate_Locked.calls 0 _ _ ([] : List (S76)) _ _ ([] : List (S72)) _ _ aa (⟨#[117]⟩ : ByteArray) 27 false _ ?side1 ?side2 ?side3 ?side4 ?side5 ?side6 A8.out).mono ?_); (case side1 => exact Kd.C_nil _ _); (case side2 => exact Nat.le_refl _); (case side3 => exact Kd.C_nil _ _); (case side4 => exact Nat.le_refl _); (case side5 => repeat (first | exact (Kd.R_reads' ab.out).2.2 | (with_reducible refine Kd.C_alloc ?_ _) | (with_reducible refine Kd.C_drewN ?_ _) | (with_reducible refine Kd.C_drew ?_))); (case side6 => exact (Kd.R_reads' ab.out).2.1); rintro e w32 ⟨rfl, hb⟩; have n0_ := Aside0.mk (Kd.R_below (zR ab.out) hb); have n1_ := Aside0.mk (Kd.V_below (zV aj.out) hb); have n2_ := Aside0.mk (Kd.V_below (zV ap.out) hb); have n3_ := Aside0.mk (blk_below (g := ae) (o := .cells #[.int .i64 0, .slice none 0 0, .slice none 0 0, .slice ah aa.length af] 26 (0, 0)) (zB ad.out) hb); have n4_ := Aside0.mk (below_step (by repeat (first | (with_reducible first | exact HB.out | apply pA | apply pN | apply pD | refine pS ?_ aq.out) | exact HB.out)) hb); clear ab; clear aj; clear ap; clear ad; clear HB; have ab := n0_; have aj := n1_; have ap := n2_; have ad := n3_; have HB := n4_; clear n0_ n1_ n2_ n3_ n4_; (try clear hb); (try clear hb2); (try clear hk); (try clear hi); obtain ⟨bI, bJ, aP⟩ := Kd.V_slice aj.out; subst aP; have p153 : 0 ≤ (0 : Int) := (by omega); have q153 : 0 < (ac.length : Int) := of_decide_eq_true (by first | (with_reducible assumption) | assumption); obtain ⟨bH, e153, hx153_0, hx153_1, hx153_2, hx153_3, hx153_4, hx153_5, hx153_6, hx153_7, hx153_8⟩ := at_T41 (Kd.V_reads' aj.out).2.2 0 p153 q153; cases e153; have qi153 : (0 < ac.length) = True := eq_true (by omega); (try rw [show ((0 : Int)).toNat = 0 from rfl] at hx153_0); (try rw [show 0 * 9 = 0 from rfl] at hx153_0); (try rw [Addr.add_zero'] at hx153_0); (try rw [show ((0 : Int)).toNat = 0 from rfl] at hx153_1); (try rw [show 0 * 9 = 0 from rfl] at hx153_1); (try rw [Addr.add_zero'] at hx153_1); (try rw [show ((0 : Int)).toNat = 0 from rfl] at hx153_2); (try rw [show 0 * 9 = 0 from rfl] at hx153_2); (try rw [Addr.add_zero'] at hx153_2); (try rw [show ((0 : Int)).toNat = 0 from rfl] at hx153_3); (try rw [show 0 * 9 = 0 from rfl] at hx153_3); (try rw [Addr.add_zero'] at hx153_3); (try rw [show ((0 : Int)).toNat = 0 from rfl] at hx153_4); (try rw [show 0 * 9 = 0 from rfl] at hx153_4); (try rw [Addr.add_zero'] at hx153_4); (try rw [show ((0 : Int)).toNat = 0 from rfl] at hx153_5); (try rw [show 0 * 9 = 0 from rfl] at hx153_5); (try rw [Addr.add_zero'] at hx153_5); (try rw [show ((0 : Int)).toNat = 0 from rfl] at hx153_6); (try rw [show 0 * 9 = 0 from rfl] at hx153_6); (try rw [Addr.add_zero'] at hx153_6); (try rw [show ((0 : Int)).toNat = 0 from rfl] at hx153_7); (try rw [show 0 * 9 = 0 from rfl] at hx153_7); (try rw [Addr.add_zero'] at hx153_7); (try rw [show ((0 : Int)).toNat = 0 from rfl] at hx153_8); (try rw [show 0 * 9 = 0 from rfl] at hx153_8); (try rw [Addr.add_zero'] at hx153_8); replace p153 := eq_true p153; replace q153 := eq_true q153; obtain ⟨bK, bL, aQ⟩ := Kd.V_slice ap.out; subst aQ))
           go_ret
           exact ⟨by first | rfl | (simp [errW_none, errW_some] <;> rfl) | (simp [*, errW_none, errW_some] <;> rfl), by repeat (first | (with_reducible first | exact HB.out | apply pA | apply pN | apply pD | refine pS ?_ aq.out) | exact HB.out)⟩
         ·rw [if_neg c15] at H
          have aE : (((rd_T41 ac 0).f0) == 5) = false := beq_eq_false_iff_ne.mpr c15
          have aF : (((rd_T41 ac 0).f0) != 5) = true := bne_iff_ne.mpr c15
          exact absurd ((Option.some.inj H).trans hlaw_.out) (by decide)
        ·rw [if_neg c14] at H
         exact absurd H (by simp)
       ·rw [if_neg c13] at H
        have aC : ((ac.length : Int) == 1) = false := beq_eq_false_iff_ne.mpr c13
        have aD : ((ac.length : Int) != 1) = true := bne_iff_ne.mpr c13
        exact absurd ((Option.some.inj H).trans hlaw_.out) (by decide)
      ·replace c12 := Bool.eq_false_iff.mpr c12
       subst c12
       have H1 : (some false) = some r := by rw [if_neg (show ¬ (false = true) by decide)] at H; exact H
       clear H
       have H := H1
       clear H1
       exact absurd ((Option.some.inj H).trans hlaw_.out) (by decide)
     ·rw [if_neg c11] at H
      have aA : (ao == 7) = false := beq_eq_false_iff_ne.mpr c11
      have aB : (ao != 7) = true := bne_iff_ne.mpr c11
      exact absurd ((Option.some.inj H).trans hlaw_.out) (by decide)
    ·rw [if_neg c10] at H
     have ay : (an == 3) = false := beq_eq_false_iff_ne.mpr c10
     have az : (an != 3) = true := bne_iff_ne.mpr c10
     exact absurd ((Option.some.inj H).trans hlaw_.out) (by decide)
  ·replace c7 := Bool.eq_false_iff.mpr c7
   subst c7
   have H1 : (some false) = some r := by rw [if_neg (show ¬ (false = true) by decide)] at H; exact H
   clear H
   have H := H1
   clear H1
   exact absurd ((Option.some.inj H).trans hlaw_.out) (by decide)
 ·rw [if_neg c5] at H
  have aM : (ak == 27) = false := beq_eq_false_iff_ne.mpr c5
  have aN : (ak != 27) = true := bne_iff_ne.mpr c5
  exact absurd ((Option.some.inj H).trans hlaw_.out) (by decide)

def portreevelaw16_shown.f (k : Nat) : Option Bool := (portreevelaw16_shown_g.f k).bind fun b => if b = true then some true else none
theorem portreevelaw16_shown.mono : ∀ k, LeO (portreevelaw16_shown.f k) (portreevelaw16_shown.f (k + 1)) := fun k => LeO.bind (portreevelaw16_shown_g.mono k) (fun _ => LeO.refl _)
theorem portreevelaw16_shown.calls (k : Nat)  (r : Bool) (w : World) (h : portreevelaw16_shown.f k  = some r) :
  Calls Try.prog 9 #[] w fun e w' => e = .returned (.bool r) ∧ Below w.heap.size w w' := by
  unfold portreevelaw16_shown.f at h
  obtain ⟨b, hb, hc⟩ := Option.bind_eq_some_iff.1 h
  cases b with
  | false => exact absurd hc (by simp)
  | true =>
    rw [if_pos rfl] at hc
    obtain rfl := Option.some.inj hc
    exact portreevelaw16_shown_g.calls k true w (Aside0.mk rfl) hb

end Go.Proofs.Ytocjadhpaecpaaa.Q

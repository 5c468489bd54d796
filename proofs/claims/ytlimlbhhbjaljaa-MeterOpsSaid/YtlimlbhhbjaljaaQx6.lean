-- written by this session's own program (wip/tools/myprint.py), over the kit's print
import Derived.Test.YtlimlbhhbjaljaaQx0
import Derived.Test.YtlimlbhhbjaljaaQx1
import Derived.Test.YtlimlbhhbjaljaaQx3
import Derived.Test.YtlimlbhhbjaljaaQx4
import Derived.Test.YtlimlbhhbjaljaaQx5
namespace Go.Proofs.Ytlimlbhhbjaljaa.Q
open Go.RowKit Go.Proofs.YtlimlbhhbjaljaaW.PrintWords Go.Proofs.YtlimlbhhbjaljaaW.PrintLast Go.Proofs.YtlimlbhhbjaljaaW.PrintMore
open Go.Proofs.YtlimlbhhbjaljaaV
attribute [local go_sem] max2_int min2_int max_two min_two max_three min_three max_four min_four   -- for this text's walks alone
set_option linter.unusedVariables false
set_option linter.unusedSimpArgs false

attribute [local go_sem high] eqA24
/-! ### portreevelaw17_shown_g: function 9 -/
def portreevelaw17_shown_g.l0 : Nat → Int → Int → Int → Int → Int → Option (Bool)
 | 0, _, _, _, _, _ => none
 | k + 1, x2, x3, x121000, x121001, x121002 => if x3 < 6 then ((meter_Tick.f x121000 x121001 x121002).bind fun bt121 => (if bt121.2.2.2 = true then (portreevelaw17_shown_g.l0 k x3 (wrap64 (x3 + 1)) bt121.1 bt121.2.1 bt121.2.2.1) else (portreevelaw17_shown_g.l0 k x2 (wrap64 (x3 + 1)) bt121.1 bt121.2.1 bt121.2.2.1))) else (if x2 = 5 then (if (x121000 == 5 && (x121001 == 7 && (x121002 == 6))) = true then ((meter_Right.f x121000 x121001 x121002).bind fun t126 => (if t126 = true then ((meter_Note.f x121000 x121001 x121002 3).bind fun bt127 => (if bt127.1 = 2 then ((meter_Stop.f x121000 x121001 x121002 3 2).bind fun bt136 => (some (bt136.2.2.2.2.2.2.2.1 == 2))) else (some false))) else (some false))) else (some false)) else (some false))
def portreevelaw17_shown_g.f (k : Nat)  : Option (Bool) := (meter_New.f).bind fun bt114 => ((meter_Count.f bt114.1 bt114.2.1 bt114.2.2 5 7).bind fun bt117 => (portreevelaw17_shown_g.l0 k 0 0 bt117.1 bt117.2.1 bt117.2.2))
theorem portreevelaw17_shown_g.mono_l : ∀ k, (∀ y0 y1 y2 y3 y4, LeO (portreevelaw17_shown_g.l0 k y0 y1 y2 y3 y4) (portreevelaw17_shown_g.l0 (k + 1) y0 y1 y2 y3 y4))
 | 0 => fun _ _ _ _ _ r h => by simp [portreevelaw17_shown_g.l0] at h
 | k + 1 => by
  have ih0 := portreevelaw17_shown_g.mono_l k
  ·intro y0 y1 y2 y3 y4
   unfold portreevelaw17_shown_g.l0
   repeat' first
   | (with_reducible exact ih0 _ _ _ _ _)
   | (with_reducible exact LeO.refl _)
   | (with_reducible exact LeO.none _)
   | (with_reducible refine LeO.ite ?_ ?_)
   | (with_reducible refine LeO.bind ?_ (fun _ => ?_))
   | exact ih0 _ _ _ _ _
   | exact LeO.none _
   | refine LeO.ite ?_ ?_
   | refine LeO.bind ?_ (fun _ => ?_)
theorem portreevelaw17_shown_g.mono : ∀ k, LeO (portreevelaw17_shown_g.f k ) (portreevelaw17_shown_g.f (k + 1) ) := by
 intro  k
 have ih0 := portreevelaw17_shown_g.mono_l k
 unfold portreevelaw17_shown_g.f
 repeat' first
   | (with_reducible exact ih0 _ _ _ _ _)
   | (with_reducible exact LeO.refl _)
   | (with_reducible exact LeO.none _)
   | (with_reducible refine LeO.ite ?_ ?_)
   | (with_reducible refine LeO.bind ?_ (fun _ => ?_))
   | exact ih0 _ _ _ _ _
   | exact LeO.none _
   | refine LeO.ite ?_ ?_
   | refine LeO.bind ?_ (fun _ => ?_)
set_option maxHeartbeats 8000000 in
set_option maxRecDepth 100000 in
theorem portreevelaw17_shown_g.calls (k : Nat)  (r : Bool) (w : World) (hlaw_ : Aside0 (r = true)) (h : portreevelaw17_shown_g.f k  = some r) :
  Calls Try.prog 9 #[] w fun e w' => e = .returned (.bool r) ∧ Below w.heap.size w w' := by
 have hu24 := Try.underlying24
 have hu35 := Try.underlying35
 have HB := Aside0.mk (Below.refl w.heap.size w)
 have H : ((meter_New.f).bind fun au => ((meter_Count.f au.1 au.2.1 au.2.2 5 7).bind fun am => (portreevelaw17_shown_g.l0 k 0 0 am.1 am.2.1 am.2.2))) = some r := h
 clear h
 replace H := Option.bind_eq_some_iff.mp H
 obtain ⟨⟨av, aw, ax⟩, aY, H⟩ := H
 replace H : ((meter_Count.f av aw ax 5 7).bind fun am => (portreevelaw17_shown_g.l0 k 0 0 am.1 am.2.1 am.2.2)) = some r := H
 have A1 := Aside0.mk aY
 clear aY
 replace H := Option.bind_eq_some_iff.mp H
 obtain ⟨⟨ar, ay, aC⟩, aZ, H⟩ := H
 replace H : (portreevelaw17_shown_g.l0 k 0 0 ar ay aC) = some r := H
 have A2 := Aside0.mk aZ
 clear aZ
 have H' := Aside0.mk H
 clear H
 go_enter Try.func9, Try.ntmps9
 go_wp2_with (first | ((with_reducible refine gate_callee (f := 12) rfl ?_); refine goesL_ (some 6) rfl rfl Try.func12 (by kernel_rfl) rfl #[] rfl (by (try simp only [List.map_toArray, List.map_cons, List.map_nil]); first | done | rfl | (simp only [List.length_drop, List.length_take]; rfl)) ?_; (with_reducible refine (meter_New.calls  av aw ax _ A1.out).mono ?_); rintro e w3 ⟨rfl, hb⟩; refine ⟨_, rfl, ?_⟩; have n0_ := Aside0.mk (below_step (zH HB.out) hb); clear HB; have HB := n0_; clear n0_; (try clear hb); (try clear hb2); (try clear hk); (try clear hi)) | ((with_reducible refine gate_callee (f := 16) rfl ?_); refine goesL_ (some 7) rfl rfl Try.func16 (by kernel_rfl) rfl #[.agg #[.int .u64 av, .int .u64 aw, .int .i64 ax], .int .i64 5, .int .i64 7] rfl (by (try simp only [List.map_toArray, List.map_cons, List.map_nil]); first | done | rfl | (simp only [List.length_drop, List.length_take]; rfl)) ?_; (with_reducible refine (meter_Count.calls av aw ax 5 7 ar ay aC _ A2.out).mono ?_); rintro e w4 ⟨rfl, hb⟩; refine ⟨_, rfl, ?_⟩; have n0_ := Aside0.mk (below_step (zH HB.out) hb); clear HB; have HB := n0_; clear n0_; (try clear hb); (try clear hb2); (try clear hk); (try clear hi)) | ((with_reducible refine gate_dst (N := 1) rfl ?_); refine box_event ?hg (N := 1) ?hd (cs := #[.int .u64 0, .int .u64 0, .int .i64 0]) (t := 24) ?hr ?_; (case hd => rfl); (case hg => rfl); (case hr => first | (go_simp; done) | (go_simp; rfl)); intro ae hg w5 hbox hb; have n0_ := Aside0.mk (below_step (zH HB.out) hb); have n1_ := Aside0.mk (hbox); have n2_ := Aside0.mk ((by rw [hg]; exact (below_size (zH HB.out)) : w.heap.size ≤ ae)); have n3_ := Aside0.mk ((by rw [hg]; exact (below_size (zH HB.out)) : w.heap.size ≤ ae)); clear HB; have HB := n0_; have ad := n1_; have ce := n2_; have ag := n3_; clear n0_ n1_ n2_ n3_; clear hb hbox hg; obtain ⟨aE, aF, aG, aH, aI, aJ⟩ := bk3 ad.out))
 go_loopg [2, 3] k (fun kq v2 v3 w' => ∃ (ak : Int) (ah : Int) (ac : Int) (ab : Int) (aa : Int), v2 = .int .i64 ak ∧ v3 = .int .i64 ah ∧ Aside0 (portreevelaw17_shown_g.l0 kq ak ah ac ab aa = some r) ∧ Aside0 (kq ≤ k) ∧ Aside0 (w'.heap[ae]? = some (.cells #[.int .u64 ac, .int .u64 ab, .int .i64 aa] 24 (0, 0))) ∧ Aside0 (Below w.heap.size w w'))
 case atStart => exact ⟨(0), (0), (ar), (ay), (aC), (by first | rfl | (simp; done) | (simp [*]; done)), (by first | rfl | (simp; done) | (simp [*]; done)), H', ⟨Nat.le_refl _⟩, ⟨by (with_reducible repeat (first | refine qN ?_ _ | refine qD ?_ | refine qA ?_ _)); refine blk_put (cs := #[.int .u64 ar, .int .u64 ay, .int .i64 0]) ?_ 2 _ rfl; (with_reducible repeat (first | refine qN ?_ _ | refine qD ?_ | refine qA ?_ _)); refine blk_put (cs := #[.int .u64 ar, .int .u64 0, .int .i64 0]) ?_ 1 _ rfl; (with_reducible repeat (first | refine qN ?_ _ | refine qD ?_ | refine qA ?_ _)); refine blk_put (cs := #[.int .u64 0, .int .u64 0, .int .i64 0]) ?_ 0 _ rfl; (with_reducible repeat (first | refine qN ?_ _ | refine qD ?_ | refine qA ?_ _)); exact ad.out⟩, ⟨by repeat (first | (with_reducible first | exact HB.out | apply pA | apply pN | apply pD | refine pS ?_ ag.out) | exact HB.out)⟩⟩
 case round =>
  clear H'
  try clear c1
  try clear p2
  try clear aE
  try clear aF
  try clear aG
  try clear aH
  try clear aI
  try clear aJ
  obtain ⟨ak, ah, ac, ab, aa, rfl, rfl, HA, aD, ad, HB⟩ := hrel
  cases gk with
  | zero => exact absurd HA.out (by simp [portreevelaw17_shown_g.l0])
  | succ k1 =>
   have H := HA.out
   clear HA
   simp only [portreevelaw17_shown_g.l0] at H
   by_cases c7 : ah < 6
   ·rw [if_pos c7] at H
    have a1 : decide (ah < 6) = true := decide_eq_true c7
    clear c7
    replace H := Option.bind_eq_some_iff.mp H
    obtain ⟨⟨ai, al, an, aK⟩, a0, H⟩ := H
    replace H : (if aK = true then (portreevelaw17_shown_g.l0 k1 ah (wrap64 (ah + 1)) ai al an) else (portreevelaw17_shown_g.l0 k1 ak (wrap64 (ah + 1)) ai al an)) = some r := H
    have A8 := Aside0.mk a0
    clear a0
    by_cases c9 : aK = true
    ·subst c9
     have H1 : (portreevelaw17_shown_g.l0 k1 ah (wrap64 (ah + 1)) ai al an) = some r := by rw [if_pos rfl] at H; exact H
     clear H
     have H := H1
     clear H1
     have H' := Aside0.mk H
     clear H
     obtain ⟨bi, bj, bk, bl, bm, bn⟩ := bk3 ad.out
     go_wp2_with (first | ((with_reducible refine gate_callee (f := 14) rfl ?_); refine goesL_ (some 14) rfl rfl Try.func14 (by kernel_rfl) rfl #[.agg #[.int .u64 ac, .int .u64 ab, .int .i64 aa]] rfl (by (try simp only [List.map_toArray, List.map_cons, List.map_nil]); first | done | rfl | (simp only [List.length_drop, List.length_take]; rfl)) ?_; (with_reducible refine (meter_Tick.calls ac ab aa ai al an true _ A8.out).mono ?_); rintro e w11 ⟨rfl, hb⟩; refine ⟨_, rfl, ?_⟩; have n0_ := Aside0.mk (blk_below (g := ae) (o := .cells #[.int .u64 ac, .int .u64 ab, .int .i64 aa] 24 (0, 0)) (zB ad.out) hb); have n1_ := Aside0.mk (below_step (by repeat (first | (with_reducible first | exact HB.out | apply pA | apply pN | apply pD | refine pS ?_ ag.out) | exact HB.out)) hb); clear ad; clear HB; have ad := n0_; have HB := n1_; clear n0_ n1_; (try clear hb); (try clear hb2); (try clear hk); (try clear hi)) | ((with_reducible refine gate_dst (N := 4) rfl ?_); refine box_event ?hg (N := 4) ?hd (cs := #[.int .u64 0, .int .u64 0, .int .i64 0]) (t := 24) ?hr ?_; (case hd => rfl); (case hg => rfl); (case hr => first | (go_simp; done) | (go_simp; rfl)); intro aj hg w12 hbox hb; have n0_ := Aside0.mk (blk_below (g := ae) (o := .cells #[.int .u64 ac, .int .u64 ab, .int .i64 aa] 24 (0, 0)) (zB ad.out) hb); have n1_ := Aside0.mk (below_step (by repeat (first | (with_reducible first | exact HB.out | apply pA | apply pN | apply pD | refine pS ?_ ag.out) | exact HB.out)) hb); have n2_ := Aside0.mk (hbox); have n3_ := Aside0.mk ((by rw [hg]; exact (below_size (by repeat (first | (with_reducible first | exact HB.out | apply pA | apply pN | apply pD | refine pS ?_ ag.out) | exact HB.out))) : w.heap.size ≤ aj)); have n4_ := Aside0.mk ((by rw [hg]; exact (below_size (by repeat (first | (with_reducible first | exact HB.out | apply pA | apply pN | apply pD | refine pS ?_ ag.out) | exact HB.out))) : w.heap.size ≤ aj)); have n5_ := Aside0.mk ((by rw [hg]; exact Nat.ne_of_lt (blk_lt (g := ae) (o := .cells #[.int .u64 ac, .int .u64 ab, .int .i64 aa] 24 (0, 0)) (zB ad.out)) : ae ≠ aj)); have n6_ := Aside0.mk ((by rw [hg]; exact Nat.ne_of_gt (blk_lt (g := ae) (o := .cells #[.int .u64 ac, .int .u64 ab, .int .i64 aa] 24 (0, 0)) (zB ad.out)) : aj ≠ ae)); clear ad; clear HB; have ad := n0_; have HB := n1_; have az := n2_; have aQ := n3_; have aA := n4_; have af := n5_; have ao := n6_; clear n0_ n1_ n2_ n3_ n4_ n5_ n6_; clear hb hbox hg; have cf := ao.out; have cg := af.out; obtain ⟨bo, bp, bq, br, bs, bt⟩ := bk3 az.out; obtain ⟨bu, bv, bw, bx, bz, bA⟩ := bk3 ad.out))
     go_roundg k1
     case measure => have := aD.out; omega
     case rel => exact ⟨(ah), (wrap64 (ah + 1)), (ai), (al), (an), (by first | rfl | (simp; done) | (simp [*]; done)), (by first | rfl | (simp; done) | (simp [*]; done)), H', ⟨by have := aD.out; omega⟩, ⟨by (with_reducible repeat (first | refine qN ?_ _ | refine qD ?_ | refine qA ?_ _)); refine blk_put (cs := #[.int .u64 ai, .int .u64 al, .int .i64 aa]) ?_ 2 _ rfl; (with_reducible repeat (first | refine qN ?_ _ | refine qD ?_ | refine qA ?_ _)); refine blk_put (cs := #[.int .u64 ai, .int .u64 ab, .int .i64 aa]) ?_ 1 _ rfl; (with_reducible repeat (first | refine qN ?_ _ | refine qD ?_ | refine qA ?_ _)); refine blk_put (cs := #[.int .u64 ac, .int .u64 ab, .int .i64 aa]) ?_ 0 _ rfl; (with_reducible repeat (first | refine qN ?_ _ | refine qD ?_ | refine qA ?_ _)); refine blk_far ?_ af.out _; (with_reducible repeat (first | refine qN ?_ _ | refine qD ?_ | refine qA ?_ _)); refine blk_far ?_ af.out _; (with_reducible repeat (first | refine qN ?_ _ | refine qD ?_ | refine qA ?_ _)); refine blk_far ?_ af.out _; (with_reducible repeat (first | refine qN ?_ _ | refine qD ?_ | refine qA ?_ _)); exact ad.out⟩, ⟨by repeat (first | (with_reducible first | exact HB.out | apply pA | apply pN | apply pD | refine pS ?_ ag.out | refine pS ?_ aA.out) | exact HB.out)⟩⟩
    ·replace c9 := Bool.eq_false_iff.mpr c9
     subst c9
     have H1 : (portreevelaw17_shown_g.l0 k1 ak (wrap64 (ah + 1)) ai al an) = some r := by rw [if_neg (show ¬ (false = true) by decide)] at H; exact H
     clear H
     have H := H1
     clear H1
     have H' := Aside0.mk H
     clear H
     obtain ⟨bB, bC, bD, bE, bF, bG⟩ := bk3 ad.out
     go_wp2_with (first | ((with_reducible refine gate_callee (f := 14) rfl ?_); refine goesL_ (some 14) rfl rfl Try.func14 (by kernel_rfl) rfl #[.agg #[.int .u64 ac, .int .u64 ab, .int .i64 aa]] rfl (by (try simp only [List.map_toArray, List.map_cons, List.map_nil]); first | done | rfl | (simp only [List.length_drop, List.length_take]; rfl)) ?_; (with_reducible refine (meter_Tick.calls ac ab aa ai al an false _ A8.out).mono ?_); rintro e w17 ⟨rfl, hb⟩; refine ⟨_, rfl, ?_⟩; have n0_ := Aside0.mk (blk_below (g := ae) (o := .cells #[.int .u64 ac, .int .u64 ab, .int .i64 aa] 24 (0, 0)) (zB ad.out) hb); have n1_ := Aside0.mk (below_step (by repeat (first | (with_reducible first | exact HB.out | apply pA | apply pN | apply pD | refine pS ?_ ag.out) | exact HB.out)) hb); clear ad; clear HB; have ad := n0_; have HB := n1_; clear n0_ n1_; (try clear hb); (try clear hb2); (try clear hk); (try clear hi)) | ((with_reducible refine gate_dst (N := 4) rfl ?_); refine box_event ?hg (N := 4) ?hd (cs := #[.int .u64 0, .int .u64 0, .int .i64 0]) (t := 24) ?hr ?_; (case hd => rfl); (case hg => rfl); (case hr => first | (go_simp; done) | (go_simp; rfl)); intro aj hg w18 hbox hb; have n0_ := Aside0.mk (blk_below (g := ae) (o := .cells #[.int .u64 ac, .int .u64 ab, .int .i64 aa] 24 (0, 0)) (zB ad.out) hb); have n1_ := Aside0.mk (below_step (by repeat (first | (with_reducible first | exact HB.out | apply pA | apply pN | apply pD | refine pS ?_ ag.out) | exact HB.out)) hb); have n2_ := Aside0.mk (hbox); have n3_ := Aside0.mk ((by rw [hg]; exact (below_size (by repeat (first | (with_reducible first | exact HB.out | apply pA | apply pN | apply pD | refine pS ?_ ag.out) | exact HB.out))) : w.heap.size ≤ aj)); have n4_ := Aside0.mk ((by rw [hg]; exact (below_size (by repeat (first | (with_reducible first | exact HB.out | apply pA | apply pN | apply pD | refine pS ?_ ag.out) | exact HB.out))) : w.heap.size ≤ aj)); have n5_ := Aside0.mk ((by rw [hg]; exact Nat.ne_of_lt (blk_lt (g := ae) (o := .cells #[.int .u64 ac, .int .u64 ab, .int .i64 aa] 24 (0, 0)) (zB ad.out)) : ae ≠ aj)); have n6_ := Aside0.mk ((by rw [hg]; exact Nat.ne_of_gt (blk_lt (g := ae) (o := .cells #[.int .u64 ac, .int .u64 ab, .int .i64 aa] 24 (0, 0)) (zB ad.out)) : aj ≠ ae)); clear ad; clear HB; have ad := n0_; have HB := n1_; have az := n2_; have aQ := n3_; have aA := n4_; have af := n5_; have ao := n6_; clear n0_ n1_ n2_ n3_ n4_ n5_ n6_; clear hb hbox hg; have ch := ao.out; have ci := af.out; obtain ⟨bH, bI, bJ, bK, bL, bM⟩ := bk3 az.out; obtain ⟨bN, bO, bP, bQ, bR, bS⟩ := bk3 ad.out))
     go_roundg k1
     case measure => have := aD.out; omega
     case rel => exact ⟨(ak), (wrap64 (ah + 1)), (ai), (al), (an), (by first | rfl | (simp; done) | (simp [*]; done)), (by first | rfl | (simp; done) | (simp [*]; done)), H', ⟨by have := aD.out; omega⟩, ⟨by (with_reducible repeat (first | refine qN ?_ _ | refine qD ?_ | refine qA ?_ _)); refine blk_put (cs := #[.int .u64 ai, .int .u64 al, .int .i64 aa]) ?_ 2 _ rfl; (with_reducible repeat (first | refine qN ?_ _ | refine qD ?_ | refine qA ?_ _)); refine blk_put (cs := #[.int .u64 ai, .int .u64 ab, .int .i64 aa]) ?_ 1 _ rfl; (with_reducible repeat (first | refine qN ?_ _ | refine qD ?_ | refine qA ?_ _)); refine blk_put (cs := #[.int .u64 ac, .int .u64 ab, .int .i64 aa]) ?_ 0 _ rfl; (with_reducible repeat (first | refine qN ?_ _ | refine qD ?_ | refine qA ?_ _)); refine blk_far ?_ af.out _; (with_reducible repeat (first | refine qN ?_ _ | refine qD ?_ | refine qA ?_ _)); refine blk_far ?_ af.out _; (with_reducible repeat (first | refine qN ?_ _ | refine qD ?_ | refine qA ?_ _)); refine blk_far ?_ af.out _; (with_reducible repeat (first | refine qN ?_ _ | refine qD ?_ | refine qA ?_ _)); exact ad.out⟩, ⟨by repeat (first | (with_reducible first | exact HB.out | apply pA | apply pN | apply pD | refine pS ?_ ag.out | refine pS ?_ aA.out) | exact HB.out)⟩⟩
   ·rw [if_neg c7] at H
    have a1 : decide (ah < 6) = false := decide_eq_false c7
    clear c7
    by_cases c22 : ak = 5
    ·rw [if_pos c22] at H
     have aR : (ak == 5) = true := beq_iff_eq.mpr c22
     have aS : (ak != 5) = false := bne_eq_false_iff_eq.mpr c22
     clear c22
     by_cases c23 : (ac == 5 && (ab == 7 && (aa == 6))) = true
     ·rw [if_pos c23] at H
      have aT : (ac == 5 && (ab == 7 && (aa == 6))) = true := c23
      (try (have aU : decide (ac = 5 && (ab == 7 && (aa == 6))) = true := by simpa using c23))
      (try (have aV : (ac == 5 && (ab == 7 && (aa == 6))) = true := by simpa using c23))
      clear c23
      replace H := Option.bind_eq_some_iff.mp H
      obtain ⟨aL, aM, H⟩ := H
      replace H : (if aL = true then ((meter_Note.f ac ab aa 3).bind fun aB => (if aB.1 = 2 then ((meter_Stop.f ac ab aa 3 2).bind fun aq => (some (aq.2.2.2.2.2.2.2.1 == 2))) else (some false))) else (some false)) = some r := H
      have cb := Aside0.mk aM
      clear aM
      by_cases c25 : aL = true
      ·subst c25
       have H1 : ((meter_Note.f ac ab aa 3).bind fun aB => (if aB.1 = 2 then ((meter_Stop.f ac ab aa 3 2).bind fun aq => (some (aq.2.2.2.2.2.2.2.1 == 2))) else (some false))) = some r := by rw [if_pos rfl] at H; exact H
       clear H
       have H := H1
       clear H1
       replace H := Option.bind_eq_some_iff.mp H
       obtain ⟨⟨ap, a2, a3, a4, a5, a6, a7, a8, a9⟩, aN, H⟩ := H
       replace H : (if ap = 2 then ((meter_Stop.f ac ab aa 3 2).bind fun aq => (some (aq.2.2.2.2.2.2.2.1 == 2))) else (some false)) = some r := H
       have cc := Aside0.mk aN
       clear aN
       by_cases c27 : ap = 2
       ·rw [if_pos c27] at H
        have aW : (ap == 2) = true := beq_iff_eq.mpr c27
        have aX : (ap != 2) = false := bne_eq_false_iff_eq.mpr c27
        clear c27
        replace H := Option.bind_eq_some_iff.mp H
        obtain ⟨⟨ba, bb, bc, bd, be, bf, bg, aO, bh⟩, aP, H⟩ := H
        replace H : (some (aO == 2)) = some r := H
        have cd := Aside0.mk aP
        clear aP
        clear hlaw_
        obtain rfl := Option.some.inj H
        obtain ⟨bT, bU, bV, bW, bX, bY⟩ := bk3 ad.out
        go_wp2_with (first | (go_at_call 11; (with_reducible refine (meter_Right.calls ac ab aa true _ cb.out).mono ?_); rintro e w30 ⟨rfl, hb⟩; have n0_ := Aside0.mk (blk_below (g := ae) (o := .cells #[.int .u64 ac, .int .u64 ab, .int .i64 aa] 24 (0, 0)) (zB ad.out) hb); have n1_ := Aside0.mk (below_step (by repeat (first | (with_reducible first | exact HB.out | apply pA | apply pN | apply pD | refine pS ?_ ag.out) | exact HB.out)) hb); clear ad; clear HB; have ad := n0_; have HB := n1_; clear n0_ n1_; (try clear hb); (try clear hb2); (try clear hk); (try clear hi); obtain ⟨bZ, b0, b1, b2, b3, b4⟩ := bk3 ad.out) | (go_at_call 18; (with_reducible refine (meter_Note.calls ac ab aa 3 ap a2 a3 a4 a5 a6 a7 a8 a9 _ cc.out).mono ?_); rintro e w32 ⟨rfl, hb⟩; have n0_ := Aside0.mk (blk_below (g := ae) (o := .cells #[.int .u64 ac, .int .u64 ab, .int .i64 aa] 24 (0, 0)) (zB ad.out) hb); have n1_ := Aside0.mk (below_step (by repeat (first | (with_reducible first | exact HB.out | apply pA | apply pN | apply pD | refine pS ?_ ag.out) | exact HB.out)) hb); clear ad; clear HB; have ad := n0_; have HB := n1_; clear n0_ n1_; (try clear hb); (try clear hb2); (try clear hk); (try clear hi); obtain ⟨b5, b6, b7, b8, b9, ca⟩ := bk3 ad.out) | (go_at_call 20; (with_reducible refine (meter_Stop.calls ac ab aa 3 2 ba bb bc bd be bf bg aO bh _ cd.out).mono ?_); rintro e w34 ⟨rfl, hb⟩; have n0_ := Aside0.mk (blk_below (g := ae) (o := .cells #[.int .u64 ac, .int .u64 ab, .int .i64 aa] 24 (0, 0)) (zB ad.out) hb); have n1_ := Aside0.mk (below_step (by repeat (first | (with_reducible first | exact HB.out | apply pA | apply pN | apply pD | refine pS ?_ ag.out) | exact HB.out)) hb); clear ad; clear HB; have ad := n0_; have HB := n1_; clear n0_ n1_; (try clear hb); (try clear hb2); (try clear hk); (try clear hi)))
        go_ret
        exact ⟨by first | rfl | (simp [errW_none, errW_some] <;> rfl) | (simp [*, errW_none, errW_some] <;> rfl), by repeat (first | (with_reducible first | exact HB.out | apply pA | apply pN | apply pD | refine pS ?_ ag.out) | exact HB.out)⟩
       ·rw [if_neg c27] at H
        have aW : (ap == 2) = false := beq_eq_false_iff_ne.mpr c27
        have aX : (ap != 2) = true := bne_iff_ne.mpr c27
        exact absurd ((Option.some.inj H).trans hlaw_.out) (by decide)
      ·replace c25 := Bool.eq_false_iff.mpr c25
       subst c25
       have H1 : (some false) = some r := by rw [if_neg (show ¬ (false = true) by decide)] at H; exact H
       clear H
       have H := H1
       clear H1
       exact absurd ((Option.some.inj H).trans hlaw_.out) (by decide)
     ·rw [if_neg c23] at H
      have aT : (ac == 5 && (ab == 7 && (aa == 6))) = false := by simpa using c23
      (try (have aU : decide (ac = 5 && (ab == 7 && (aa == 6))) = false := by simpa using c23))
      (try (have aV : (ac == 5 && (ab == 7 && (aa == 6))) = false := by simpa using c23))
      (try (have cj : ¬ (ac = 5 && (ab == 7 && (aa == 6))) := by simpa using c23))
      clear c23
      exact absurd ((Option.some.inj H).trans hlaw_.out) (by decide)
    ·rw [if_neg c22] at H
     have aR : (ak == 5) = false := beq_eq_false_iff_ne.mpr c22
     have aS : (ak != 5) = true := bne_iff_ne.mpr c22
     exact absurd ((Option.some.inj H).trans hlaw_.out) (by decide)

def portreevelaw17_shown.f (k : Nat) : Option Bool := (portreevelaw17_shown_g.f k).bind fun b => if b = true then some true else none
theorem portreevelaw17_shown.mono : ∀ k, LeO (portreevelaw17_shown.f k) (portreevelaw17_shown.f (k + 1)) := fun k => LeO.bind (portreevelaw17_shown_g.mono k) (fun _ => LeO.refl _)
theorem portreevelaw17_shown.calls (k : Nat)  (r : Bool) (w : World) (h : portreevelaw17_shown.f k  = some r) :
  Calls Try.prog 9 #[] w fun e w' => e = .returned (.bool r) ∧ Below w.heap.size w w' := by
  unfold portreevelaw17_shown.f at h
  obtain ⟨b, hb, hc⟩ := Option.bind_eq_some_iff.1 h
  cases b with
  | false => exact absurd hc (by simp)
  | true =>
    rw [if_pos rfl] at hc
    obtain rfl := Option.some.inj hc
    exact portreevelaw17_shown_g.calls k true w (Aside0.mk rfl) hb

end Go.Proofs.Ytlimlbhhbjaljaa.Q

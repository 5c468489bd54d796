-- written by this session's own program (wip/tools/myprint.py), over the kit's print
import Derived.Test.YtlimlbhhbjaljaaQx0
import Derived.Test.YtlimlbhhbjaljaaQx12
namespace Go.Proofs.Ytlimlbhhbjaljaa.Q
open Go.RowKit Go.Proofs.YtlimlbhhbjaljaaW.PrintWords Go.Proofs.YtlimlbhhbjaljaaW.PrintLast Go.Proofs.YtlimlbhhbjaljaaW.PrintMore
open Go.Proofs.YtlimlbhhbjaljaaV
attribute [local go_sem] max2_int min2_int max_two min_two max_three min_three max_four min_four   -- for this text's walks alone
set_option linter.unusedVariables false
set_option linter.unusedSimpArgs false

/-! ### portreeveref04_May: function 25 -/
def portreeveref04_May.j0 : Nat → Bool → Bool → Int → Int → Int → Int → ByteArray → Int → Int → Int → Int → Option (Bool)
 | 0, _, _, _, _, _, _, _, _, _, _, _ => none
 | k + 1, x3, x34, x275000, x275001, x275002, x275003, x275004, x275005, x275006, x275007, x275008 => if x34 = true then (some false) else (if x3 = true then (if x275008 ≥ 0 then (if x275008 ≤ 1000000000 then (if x275007 ≥ 0 then (some (decide (x275007 ≤ 255))) else (some false)) else (some false)) else (some false)) else (some false))
def portreeveref04_May.f (k : Nat) (a0_0 : Int) (a0_1 : Int) (a0_2 : Int) (a0_3 : Int) (a0_4 : ByteArray) (a0_5 : Int) (a0_6 : Int) (a0_7 : Int) (a0_8 : Int) : Option (Bool) := (portreeveref04_name.f a0_4).bind fun t275 => (if a0_0 < 1 then (portreeveref04_May.j0 k t275 true a0_0 a0_1 a0_2 a0_3 a0_4 a0_5 a0_6 a0_7 a0_8) else (if a0_0 > 6 then (portreeveref04_May.j0 k t275 true a0_0 a0_1 a0_2 a0_3 a0_4 a0_5 a0_6 a0_7 a0_8) else (if a0_1 < 0 then (portreeveref04_May.j0 k t275 true a0_0 a0_1 a0_2 a0_3 a0_4 a0_5 a0_6 a0_7 a0_8) else (if a0_1 > 1000000000 then (portreeveref04_May.j0 k t275 true a0_0 a0_1 a0_2 a0_3 a0_4 a0_5 a0_6 a0_7 a0_8) else (if a0_2 < 0 then (portreeveref04_May.j0 k t275 true a0_0 a0_1 a0_2 a0_3 a0_4 a0_5 a0_6 a0_7 a0_8) else (portreeveref04_May.j0 k t275 (decide (a0_2 > 7)) a0_0 a0_1 a0_2 a0_3 a0_4 a0_5 a0_6 a0_7 a0_8))))))
theorem portreeveref04_May.mono_l : ∀ k, (∀ y0 y1 y2 y3 y4 y5 y6 y7 y8 y9 y10, LeO (portreeveref04_May.j0 k y0 y1 y2 y3 y4 y5 y6 y7 y8 y9 y10) (portreeveref04_May.j0 (k + 1) y0 y1 y2 y3 y4 y5 y6 y7 y8 y9 y10))
 | 0 => fun _ _ _ _ _ _ _ _ _ _ _ r h => by simp [portreeveref04_May.j0] at h
 | k + 1 => by
  have ih0 := portreeveref04_May.mono_l k
  ·intro y0 y1 y2 y3 y4 y5 y6 y7 y8 y9 y10
   unfold portreeveref04_May.j0
   repeat' first
   | (with_reducible exact ih0 _ _ _ _ _ _ _ _ _ _ _)
   | (with_reducible exact LeO.refl _)
   | (with_reducible exact LeO.none _)
   | (with_reducible refine LeO.ite ?_ ?_)
   | (with_reducible refine LeO.bind ?_ (fun _ => ?_))
   | exact ih0 _ _ _ _ _ _ _ _ _ _ _
   | exact LeO.none _
   | refine LeO.ite ?_ ?_
   | refine LeO.bind ?_ (fun _ => ?_)
theorem portreeveref04_May.mono : ∀ a0 a1 a2 a3 a4 a5 a6 a7 a8 k, LeO (portreeveref04_May.f k a0 a1 a2 a3 a4 a5 a6 a7 a8) (portreeveref04_May.f (k + 1) a0 a1 a2 a3 a4 a5 a6 a7 a8) := by
 intro a0 a1 a2 a3 a4 a5 a6 a7 a8 k
 have ih0 := portreeveref04_May.mono_l k
 unfold portreeveref04_May.f
 repeat' first
   | (with_reducible exact ih0 _ _ _ _ _ _ _ _ _ _ _)
   | (with_reducible exact LeO.refl _)
   | (with_reducible exact LeO.none _)
   | (with_reducible refine LeO.ite ?_ ?_)
   | (with_reducible refine LeO.bind ?_ (fun _ => ?_))
   | exact ih0 _ _ _ _ _ _ _ _ _ _ _
   | exact LeO.none _
   | refine LeO.ite ?_ ?_
   | refine LeO.bind ?_ (fun _ => ?_)
set_option maxHeartbeats 8000000 in
set_option maxRecDepth 100000 in
theorem portreeveref04_May.calls (k : Nat) (aa : Int) (ab : Int) (ad : Int) (ah : Int) (ag : ByteArray) (ai : Int) (aj : Int) (ae : Int) (ac : Int) (r : Bool) (w : World) (h : portreeveref04_May.f k aa ab ad ah ag ai aj ae ac = some r) :
  Calls Try.prog 25 #[.agg #[.int .i64 aa, .int .i64 ab, .int .i64 ad, .int .u32 ah, .string ag, .int .u64 ai, .int .u64 aj, .int .i64 ae, .int .i64 ac]] w fun e w' => e = .returned (.bool r) ∧ Below w.heap.size w w' := by
 have hu35 := Try.underlying35
 have HB := Aside0.mk (Below.refl w.heap.size w)
 have H : ((portreeveref04_name.f ag).bind fun ak => (if aa < 1 then (portreeveref04_May.j0 k ak true aa ab ad ah ag ai aj ae ac) else (if aa > 6 then (portreeveref04_May.j0 k ak true aa ab ad ah ag ai aj ae ac) else (if ab < 0 then (portreeveref04_May.j0 k ak true aa ab ad ah ag ai aj ae ac) else (if ab > 1000000000 then (portreeveref04_May.j0 k ak true aa ab ad ah ag ai aj ae ac) else (if ad < 0 then (portreeveref04_May.j0 k ak true aa ab ad ah ag ai aj ae ac) else (portreeveref04_May.j0 k ak (decide (ad > 7)) aa ab ad ah ag ai aj ae ac))))))) = some r := h
 clear h
 replace H := Option.bind_eq_some_iff.mp H
 obtain ⟨ak, cL, H⟩ := H
 replace H : (if aa < 1 then (portreeveref04_May.j0 k ak true aa ab ad ah ag ai aj ae ac) else (if aa > 6 then (portreeveref04_May.j0 k ak true aa ab ad ah ag ai aj ae ac) else (if ab < 0 then (portreeveref04_May.j0 k ak true aa ab ad ah ag ai aj ae ac) else (if ab > 1000000000 then (portreeveref04_May.j0 k ak true aa ab ad ah ag ai aj ae ac) else (if ad < 0 then (portreeveref04_May.j0 k ak true aa ab ad ah ag ai aj ae ac) else (portreeveref04_May.j0 k ak (decide (ad > 7)) aa ab ad ah ag ai aj ae ac)))))) = some r := H
 have A2 := Aside0.mk cL
 clear cL
 have HC3 := Aside0.mk H
 clear H
 go_enter Try.func25, Try.ntmps25
 go_upto_region 2 with (first | ((with_reducible refine gate_dst (N := 1) rfl ?_); refine box_event ?hg (N := 1) ?hd (cs := #[.int .i64 aa, .int .i64 ab, .int .i64 ad, .int .u32 ah, .string ag, .int .u64 ai, .int .u64 aj, .int .i64 ae, .int .i64 ac]) (t := 35) ?hr ?_; (case hd => rfl); (case hg => rfl); (case hr => first | (go_simp; done) | (go_simp; rfl)); intro ao hg w4 hbox hb; have n0_ := Aside0.mk (below_step (zH HB.out) hb); have n1_ := Aside0.mk (hbox); have n2_ := Aside0.mk ((by rw [hg]; exact (below_size (zH HB.out)) : w.heap.size ≤ ao)); have n3_ := Aside0.mk ((by rw [hg]; exact (below_size (zH HB.out)) : w.heap.size ≤ ao)); clear HB; have HB := n0_; have af := n1_; have d2 := n2_; have al := n3_; clear n0_ n1_ n2_ n3_; clear hb hbox hg; obtain ⟨bO, bP, bQ, bR, bS, bT, bU, bV, bW, bX, bY, bZ, b0, b1, b2, b3, b4, b5⟩ := bk9 af.out) | ((with_reducible refine gate_callee (f := 31) rfl ?_); refine goesL_ (some 6) rfl rfl Try.func31 (by kernel_rfl) rfl #[.string ag] rfl (by (try simp only [List.map_toArray, List.map_cons, List.map_nil]); first | done | rfl | (simp only [List.length_drop, List.length_take]; rfl)) ?_; (with_reducible refine (portreeveref04_name.calls ag ak _ A2.out).mono ?_); rintro e w' ⟨rfl, ⟨nd, rfl⟩⟩; refine ⟨_, rfl, ?_⟩))
 (try simp only [Act.put, sT, s0, s1])
 go_cut [34] (fun v34 wc => ∃ (kq : Nat) (an : Bool), v34 = .bool an ∧ Aside0 (portreeveref04_May.j0 kq ak an aa ab ad ah ag ai aj ae ac = some r) ∧ Aside0 (kq ≤ k) ∧ Aside0 (wc.heap[ao]? = some (.cells #[.int .i64 aa, .int .i64 ab, .int .i64 ad, .int .u32 ah, .string ag, .int .u64 ai, .int .u64 aj, .int .i64 ae, .int .i64 ac] 35 (0, 0))) ∧ Aside0 (Below w.heap.size w wc))
 case first =>
  have H := HC3.out
  clear HC3
  by_cases c6 : aa < 1
  ·rw [if_pos c6] at H
   have am : decide (aa < 1) = true := decide_eq_true c6
   clear c6
   (first | rw [am] | (simp only [i64_w, i32_w]; rw [am]) | skip)
   have H' := Aside0.mk H
   clear H
   obtain ⟨b6, b7, b8, b9, ca, cb, cc, cd, ce, cf, cg, ch, ci, cj, ck, cl, cm, cn⟩ := bk9 af.out
   go_wp2
   go_meet
   case rel => exact ⟨_, (true), (by first | rfl | (simp; done) | (simp [*]; done)), H', ⟨by first | omega | exact Nat.le_refl _⟩, ⟨zB af.out⟩, ⟨by repeat (first | (with_reducible first | exact HB.out | apply pA | apply pN | apply pD | refine pS ?_ al.out) | exact HB.out)⟩⟩
  ·rw [if_neg c6] at H
   have am : decide (aa < 1) = false := decide_eq_false c6
   clear c6
   (first | rw [am] | (simp only [i64_w, i32_w]; rw [am]) | skip)
   by_cases c8 : aa > 6
   ·rw [if_pos c8] at H
    have co : decide (6 < aa) = true := decide_eq_true c8
    clear c8
    have H' := Aside0.mk H
    clear H
    obtain ⟨cp, cq, cr, ct, cu, cv, cw, cx, cy, cz, cA, cB, cC, cD, cE, cF, cG, cH⟩ := bk9 af.out
    go_wp2
    go_meet
    case rel => exact ⟨_, (true), (by first | rfl | (simp; done) | (simp [*]; done)), H', ⟨by first | omega | exact Nat.le_refl _⟩, ⟨zB af.out⟩, ⟨by repeat (first | (with_reducible first | exact HB.out | apply pA | apply pN | apply pD | refine pS ?_ al.out) | exact HB.out)⟩⟩
   ·rw [if_neg c8] at H
    have co : decide (6 < aa) = false := decide_eq_false c8
    clear c8
    by_cases c10 : ab < 0
    ·rw [if_pos c10] at H
     have ap : decide (ab < 0) = true := decide_eq_true c10
     clear c10
     have H' := Aside0.mk H
     clear H
     obtain ⟨au, av, aw, ax, ay, az, aA, aB, aC, aD, aE, aF, aG, aH, aI, aJ, aK, aL⟩ := bk9 af.out
     go_wp2
     go_meet
     case rel => exact ⟨_, (true), (by first | rfl | (simp; done) | (simp [*]; done)), H', ⟨by first | omega | exact Nat.le_refl _⟩, ⟨zB af.out⟩, ⟨by repeat (first | (with_reducible first | exact HB.out | apply pA | apply pN | apply pD | refine pS ?_ al.out) | exact HB.out)⟩⟩
    ·rw [if_neg c10] at H
     have ap : decide (ab < 0) = false := decide_eq_false c10
     clear c10
     by_cases c12 : ab > 1000000000
     ·rw [if_pos c12] at H
      have aq : decide (1000000000 < ab) = true := decide_eq_true c12
      clear c12
      have H' := Aside0.mk H
      clear H
      obtain ⟨aM, aN, aO, aP, aQ, aR, aS, aT, aU, aV, aW, aX, aY, aZ, a9, ba, bb, bc⟩ := bk9 af.out
      go_wp2
      go_meet
      case rel => exact ⟨_, (true), (by first | rfl | (simp; done) | (simp [*]; done)), H', ⟨by first | omega | exact Nat.le_refl _⟩, ⟨zB af.out⟩, ⟨by repeat (first | (with_reducible first | exact HB.out | apply pA | apply pN | apply pD | refine pS ?_ al.out) | exact HB.out)⟩⟩
     ·rw [if_neg c12] at H
      have aq : decide (1000000000 < ab) = false := decide_eq_false c12
      clear c12
      by_cases c14 : ad < 0
      ·rw [if_pos c14] at H
       have ar : decide (ad < 0) = true := decide_eq_true c14
       clear c14
       have H' := Aside0.mk H
       clear H
       obtain ⟨bd, be, bf, bg, bh, bi, bj, bk, bl, bm, bn, bo, bp, bq, br, bs, bt, bu⟩ := bk9 af.out
       go_wp2
       go_meet
       case rel => exact ⟨_, (true), (by first | rfl | (simp; done) | (simp [*]; done)), H', ⟨by first | omega | exact Nat.le_refl _⟩, ⟨zB af.out⟩, ⟨by repeat (first | (with_reducible first | exact HB.out | apply pA | apply pN | apply pD | refine pS ?_ al.out) | exact HB.out)⟩⟩
      ·rw [if_neg c14] at H
       have ar : decide (ad < 0) = false := decide_eq_false c14
       clear c14
       have H' := Aside0.mk H
       clear H
       obtain ⟨bv, bw, bx, bz, bA, bB, bC, bD, bE, bF, bG, bH, bI, bJ, bK, bL, bM, bN⟩ := bk9 af.out
       go_wp2
       go_meet
       case rel => exact ⟨_, (decide (ad > 7)), (by first | rfl | (simp; done) | (simp [*]; done)), H', ⟨by first | omega | exact Nat.le_refl _⟩, ⟨zB af.out⟩, ⟨by repeat (first | (with_reducible first | exact HB.out | apply pA | apply pN | apply pD | refine pS ?_ al.out) | exact HB.out)⟩⟩
 case rest =>
  clear HC3
  try clear c1
  try clear c2
  try clear p2
  try clear c3
  try clear c6
  try clear am
  try clear c8
  try clear co
  try clear c10
  try clear ap
  try clear c12
  try clear aq
  try clear c14
  try clear ar
  try clear au
  try clear av
  try clear aw
  try clear ax
  try clear ay
  try clear az
  try clear aA
  try clear aB
  try clear aC
  try clear aM
  try clear aN
  try clear aO
  try clear aP
  try clear aQ
  try clear aR
  try clear aS
  try clear aT
  try clear aU
  try clear bd
  try clear be
  try clear bf
  try clear bg
  try clear bh
  try clear bi
  try clear bj
  try clear bk
  try clear bl
  try clear bv
  try clear bw
  try clear bx
  try clear bz
  try clear bA
  try clear bB
  try clear bC
  try clear bD
  try clear bE
  try clear bO
  try clear bP
  try clear bQ
  try clear bR
  try clear bS
  try clear bT
  try clear bU
  try clear bV
  try clear bW
  try clear b6
  try clear b7
  try clear b8
  try clear b9
  try clear ca
  try clear cb
  try clear cc
  try clear cd
  try clear ce
  try clear cp
  try clear cq
  try clear cr
  try clear ct
  try clear cu
  try clear cv
  try clear cw
  try clear cx
  try clear cy
  try clear aD
  try clear aE
  try clear aF
  try clear aG
  try clear aH
  try clear aI
  try clear aJ
  try clear aK
  try clear aL
  try clear aV
  try clear aW
  try clear aX
  try clear aY
  try clear aZ
  try clear a9
  try clear ba
  try clear bb
  try clear bc
  try clear bm
  try clear bn
  try clear bo
  try clear bp
  try clear bq
  try clear br
  try clear bs
  try clear bt
  try clear bu
  try clear bF
  try clear bG
  try clear bH
  try clear bI
  try clear bJ
  try clear bK
  try clear bL
  try clear bM
  try clear bN
  try clear bX
  try clear bY
  try clear bZ
  try clear b0
  try clear b1
  try clear b2
  try clear b3
  try clear b4
  try clear b5
  try clear cf
  try clear cg
  try clear ch
  try clear ci
  try clear cj
  try clear ck
  try clear cl
  try clear cm
  try clear cn
  try clear cz
  try clear cA
  try clear cB
  try clear cC
  try clear cD
  try clear cE
  try clear cF
  try clear cG
  try clear cH
  obtain ⟨kq, an, rfl, HA, d3, af, HB⟩ := hcut
  cases kq with
  | zero => exact absurd HA.out (by simp [portreeveref04_May.j0])
  | succ d4 =>
   have H := HA.out
   clear HA
   simp only [portreeveref04_May.j0] at H
   by_cases c17 : an = true
   ·subst c17
    have H1 : (some false) = some r := by rw [if_pos rfl] at H; exact H
    clear H
    have H := H1
    clear H1
    obtain rfl := Option.some.inj H
    go_wp2
    go_ret
    exact ⟨by first | rfl | (simp [errW_none, errW_some] <;> rfl) | (simp [*, errW_none, errW_some] <;> rfl), by repeat (first | (with_reducible first | exact HB.out | apply pA | apply pN | apply pD | refine pS ?_ al.out) | exact HB.out)⟩
   ·replace c17 := Bool.eq_false_iff.mpr c17
    subst c17
    have H1 : (if ak = true then (if ac ≥ 0 then (if ac ≤ 1000000000 then (if ae ≥ 0 then (some (decide (ae ≤ 255))) else (some false)) else (some false)) else (some false)) else (some false)) = some r := by rw [if_neg (show ¬ (false = true) by decide)] at H; exact H
    clear H
    have H := H1
    clear H1
    by_cases c18 : ak = true
    ·subst c18
     have H1 : (if ac ≥ 0 then (if ac ≤ 1000000000 then (if ae ≥ 0 then (some (decide (ae ≤ 255))) else (some false)) else (some false)) else (some false)) = some r := by rw [if_pos rfl] at H; exact H
     clear H
     have H := H1
     clear H1
     by_cases c19 : ac ≥ 0
     ·rw [if_pos c19] at H
      have cI : decide (0 ≤ ac) = true := decide_eq_true c19
      clear c19
      by_cases c20 : ac ≤ 1000000000
      ·rw [if_pos c20] at H
       have cJ : decide (ac ≤ 1000000000) = true := decide_eq_true c20
       clear c20
       by_cases c21 : ae ≥ 0
       ·rw [if_pos c21] at H
        have cK : decide (0 ≤ ae) = true := decide_eq_true c21
        clear c21
        obtain rfl := Option.some.inj H
        obtain ⟨cM, cN, cO, cP, cQ, cR, cS, cT, cU, cV, cW, cX, cY, cZ, c0, c4, c5, c7⟩ := bk9 af.out
        go_wp2
        go_ret
        exact ⟨by first | rfl | (simp [errW_none, errW_some] <;> rfl) | (simp [*, errW_none, errW_some] <;> rfl), by repeat (first | (with_reducible first | exact HB.out | apply pA | apply pN | apply pD | refine pS ?_ al.out) | exact HB.out)⟩
       ·rw [if_neg c21] at H
        have cK : decide (0 ≤ ae) = false := decide_eq_false c21
        clear c21
        obtain rfl := Option.some.inj H
        obtain ⟨c9, da, db, dc, dd, de, df, dg, dh, di, dj, dk, dl, dm, dn, dp, dq, dr⟩ := bk9 af.out
        go_wp2
        go_ret
        exact ⟨by first | rfl | (simp [errW_none, errW_some] <;> rfl) | (simp [*, errW_none, errW_some] <;> rfl), by repeat (first | (with_reducible first | exact HB.out | apply pA | apply pN | apply pD | refine pS ?_ al.out) | exact HB.out)⟩
      ·rw [if_neg c20] at H
       have cJ : decide (ac ≤ 1000000000) = false := decide_eq_false c20
       clear c20
       obtain rfl := Option.some.inj H
       obtain ⟨ds, dt, du, dv, dw, dx, dy, dz, dA, dB, dC, dD, dE, dF, dG, dH, dI, dJ⟩ := bk9 af.out
       go_wp2
       go_ret
       exact ⟨by first | rfl | (simp [errW_none, errW_some] <;> rfl) | (simp [*, errW_none, errW_some] <;> rfl), by repeat (first | (with_reducible first | exact HB.out | apply pA | apply pN | apply pD | refine pS ?_ al.out) | exact HB.out)⟩
     ·rw [if_neg c19] at H
      have cI : decide (0 ≤ ac) = false := decide_eq_false c19
      clear c19
      obtain rfl := Option.some.inj H
      obtain ⟨dK, dL, dM, dN, dO, dP, dQ, dR, dS, dT, dU, dV, dW, dX, dY, dZ, d0, d1⟩ := bk9 af.out
      go_wp2
      go_ret
      exact ⟨by first | rfl | (simp [errW_none, errW_some] <;> rfl) | (simp [*, errW_none, errW_some] <;> rfl), by repeat (first | (with_reducible first | exact HB.out | apply pA | apply pN | apply pD | refine pS ?_ al.out) | exact HB.out)⟩
    ·replace c18 := Bool.eq_false_iff.mpr c18
     subst c18
     have H1 : (some false) = some r := by rw [if_neg (show ¬ (false = true) by decide)] at H; exact H
     clear H
     have H := H1
     clear H1
     obtain rfl := Option.some.inj H
     go_wp2
     go_ret
     exact ⟨by first | rfl | (simp [errW_none, errW_some] <;> rfl) | (simp [*, errW_none, errW_some] <;> rfl), by repeat (first | (with_reducible first | exact HB.out | apply pA | apply pN | apply pD | refine pS ?_ al.out) | exact HB.out)⟩

end Go.Proofs.Ytlimlbhhbjaljaa.Q
